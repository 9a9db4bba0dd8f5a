/-
  Texts put together (11).
-/
import Derived.Test.YtpjidiaekifmbaaGreatDoorZParityRows10
set_option maxHeartbeats 1000000
namespace Go.Sl
theorem Wrote.atI {R R' : Rk} {x : Dk} {k : Nat} {nw : List UInt8} (h : Wrote R x k nw R') {i : Nat} (hx : R.ds[i]? = some x) : R'.ds[i]? = some { x with now := nw } := by
 rw [h.ds]; exact setD_atI (g := fun y => { y with now := nw }) hx
end Go.Sl
namespace Go.Proofs.YtpjidiaekifmbaaGreatDoor
open Go.Sl
set_option maxRecDepth 10000
def DlC (p q i : Nat) (L : zAj) : Prop := ∃ u1 u2 u3 u4 u5 u6 u7, L = [(p, cel [ptr q, .int .i64 i, u1, u2, u3, u4, u5, u6, u7] 155)]
theorem dwon_ret (q : Nat) (R : Rk) (C : zAj) (hC : RfC q R C) (hR : RqOk R) (i : Nat) (x : Dk) (hx : R.ds[i]? = some x) (hf : x.failed = false) (hws : R.ws.length + 8192 ≤ 244335861110) (hwr : R.pw.wr ≤ 1000000000000000000) (at_ : Nat) (v : Value) (b : List UInt8) (D : zAj) (hD : Rd D 1 v b.length (byt b)) (hcap : ∃ ad c, v = .slice ad b.length c ∧ b.length ≤ c)
  (hm : zDy x.pl.length at_ b) (hmod : x.pl.length % 128 = 0) (w0 : World) (H : Hp w0 [C, D]) :
  Ret Tryz.prog 69 #[ptr q, .int .i64 i, .int .i64 at_, v] w0 fun u w' => u = .int .i64 0 ∧ ∃ R' C', Wrote R x (b.length / 128) (zHd x.now at_ b) R' ∧ RqOk R' ∧ RfC q R' C' ∧ Trs w0 w' [C, D] [C', D] := by
 have hxm := List.mem_of_getElem? hx
 have hl := hR.dk.2 x hxm
 obtain ⟨m1, m2, m3, m4⟩ := id hm
 refine (qwrite_ret q R C hC hR.dk i x hx hmod hws hwr (by rw [hR.on.left]; decide) at_ oZ v b D hD hcap w0 H).mono fun u w' ⟨C', hu, hC', hT⟩ => ?_
 obtain ⟨h1, h2⟩ := wrote_one hR.on hf hl.1 hm
 rw [h1] at hu
 exact ⟨hu, _, C', h2, hR.write hxm h2.on, hC', hT⟩
theorem dformat_ret (q : Nat) (R : Rk) (C : zAj) (hC : RfC q R C) (hR : RqOk R) (i : Nat) (x : Dk) (hx : R.ds[i]? = some x) (hf : x.failed = false) (hws : R.ws.length + 16384 ≤ 244335861110) (hwr : R.pw.wr ≤ 900000000000000000)
  (n : Nat) (hn : x.pl.length = n * 128) (O : zAj) (v : Value) (l : Lbl) (hT : Rd O 3 v l.tops.length (l.tops.flatMap Tp.lay)) (ho : l.Ok) (hl : lbE l = 0) (hsec : (l.tops.getD l.top.toNat zIe).sectors = n) (w0 : World) (H : Hp w0 [C, O]) :
  Ret Tryz.prog 30 #[ptr q, .int .i64 i, lbagg l v] w0 fun u w' => ∃ p L R' C' F, u = .tuple #[ptr p, .int .i64 0] ∧ DlC p q i L ∧ RfC q R' C' ∧ RqOk R' ∧ Wrote.Fl R x 296 F R' ∧ Trs w0 w' [C, O] [L, C', O] := by
 have S := St.begin H
 obtain ⟨y1, y2, y3, y4, y5, y6, y7⟩ := labeled hl
 have htl : l.top.toNat < l.tops.length := by omega
 have hn4 : 324 ≤ n ∧ n ≤ 8192 := by
  have := y7 (l.tops.getD l.top.toNat zIe) (by rw [List.getD_eq_getElem?_getD, List.getElem?_eq_getElem htl]; exact List.getElem_mem htl)
  obtain ⟨q1, q2, -⟩ := this
  rw [hsec] at q1 q2
  omega
 have hxm := List.mem_of_getElem? hx
 have hxl := hR.dk.2 x hxm
 have hnd := hR.dk.1
 have hd : x.pl.length / 128 = n := by omega
 have hmod : x.pl.length % 128 = 0 := by omega
 have hbl := lbO_len hl
 obtain ⟨lb, hlb⟩ : ∃ lb, lb = lbO l := ⟨_, rfl⟩
 rw [← hlb] at hbl
 obtain ⟨ad, c, rfl⟩ := hT.slice
 obtain ⟨ob, oo, rfl⟩ := hT.addr oZ
 obtain ⟨tn, htn⟩ : ∃ tn : Nat, l.top = tn := ⟨l.top.toNat, by omega⟩
 have hsl : (l.tops.flatMap Tp.lay)[tn * 3 + 2]? = some (.int .i64 n) := by
  have h := flat_at (lay := Tp.lay) (s := 3) Tp.lay_len l.tops tn oZ 2 (.int .i64 n) (by
   rw [htn, Int.toNat_natCast, List.getD_eq_getElem?_getD, List.getElem?_eq_getElem (by omega : tn < l.tops.length), Option.getD_some] at hsec
   rw [← hsec]; rfl)
  exact h
 have hz : List.replicate 35072 (.int .u8 0) = byt (List.replicate 35072 0) := (zFd 35072).symm
 have hzl : (List.replicate 35072 (0 : UInt8)).length = 35072 := List.length_replicate
 obtain ⟨zs, hzs⟩ : ∃ zs, zs = List.replicate 35072 (0 : UInt8) := ⟨_, rfl⟩
 rw [← hzs] at hz hzl
 have hy : List.replicate 2304 (.int .u8 0) = byt (List.replicate 2304 0) := (zFd 2304).symm
 have hyl : (List.replicate 2304 (0 : UInt8)).length = 2304 := List.length_replicate
 obtain ⟨zy, hzy⟩ : ∃ zy, zy = List.replicate 2304 (0 : UInt8) := ⟨_, rfl⟩
 rw [← hzy] at hy hyl
 have hW0 := Wrote.zero hR.on hnd hxm hxl.1
 refine zDi 77 Tryz.func30 rfl rfl dZ ?_; intro a E
 refine wp_seq_k ?_; intro K hK
 refine zAa ?_
 refine zAf rfl (zBz E S rfl rfl dZ rfl rfl ?_); clear E S a; intro a w b5 E S
 iterate 2 (refine zd E ?_; clear E a; intro a E)
 refine wpList_nil ?_
 refine zAb hK ?_; clear hK K
 refine wp_seq_k ?_; intro K hK
 refine zAa ?_
 refine zp E (zBf (vs := [_, _, _, _]) E rfl rfl rfl (S.get pZ) rfl rfl) ?_; clear E a; intro a E
 refine zAg E rfl rfl dZ rfl Tryz.func67 rfl yZ rfl (dlbencode_ret O _ l hT ho _ (S.hp.sel sZ)) ?_
 rintro v15 w ⟨vb, D, rfl, hD, hT'⟩; clear E a; intro a E
 have S := S.call2 sZ hT'; rw [hl] at E; rw [← hlb] at hD
 obtain ⟨add, cd, rfl⟩ := hD.slice
 have hcd := hD.cap_le
 iterate 5 (refine zd E ?_; clear E a; intro a E)
 refine wpList_nil ?_
 refine zAb hK ?_; clear hK K
 iterate 2 (refine wp_seq_k ?_; intro K hK)
 refine zAa ?_
 iterate 2 (refine zd E ?_; clear E a; intro a E)
 refine wpList_nil ?_
 refine zAb hK ?_; clear hK K
 refine zAt E rfl (rfl) ?_
 refine wp_skip ?_
 refine zAb hK ?_; clear hK K
 refine wp_seq_k ?_; intro K hK
 refine zAa ?_
 iterate 2 (refine zd E ?_; clear E a; intro a E)
 refine zAg E rfl rfl dZ rfl Tryz.func68 rfl yZ rfl (zJe q R C hC i x hx _ (S.hp.sel sZ)) ?_
 rintro v23 w ⟨rfl, hT'⟩; clear E a; intro a E
 have S := S.call1 sZ hT'; rw [hd] at E
 refine zd E ?_; clear E a; intro a E
 refine wpList_nil ?_
 refine zAb hK ?_; clear hK K
 iterate 2 (refine wp_seq_k ?_; intro K hK)
 refine zAa ?_
 refine zp E (by first | exact zAc (q := 1) E rfl rfl rfl | exact zAd (q := 1) E rfl rfl rfl) ?_; clear E a; intro a E
 refine zd E ?_; clear E a; intro a E
 refine zp E (by first | exact zAc (q := 2) E rfl rfl rfl | exact zAd (q := 2) E rfl rfl rfl) ?_; clear E a; intro a E
 refine zd E ?_; clear E a; intro a E
 refine zp E (zAz (i := tn) E rfl rfl rfl rfl rfl htn oZ) ?_; clear E a; intro a E
 refine zp E (by first | exact zAc (q := 2) E rfl rfl rfl | exact zAd (q := 2) E rfl rfl rfl) ?_; clear E a; intro a E
 refine zp E (zAo E rfl rfl rfl (hT.cells (S.stab.at mZ) rfl (tn * 3 + 2) _ hsl)) ?_; clear E a; intro a E
 iterate 2 (refine zd E ?_; clear E a; intro a E)
 refine wpList_nil ?_
 refine zAb hK ?_; clear hK K
 refine zAt E rfl ((by simp)) ?_
 refine wp_skip ?_
 refine zAb hK ?_; clear hK K
 refine wp_seq_k ?_; intro K hK
 replace E := E.keep (e' := [(0, _), (1, _), (5, _), (6, _), (7, _), (8, _), (9, _), (10, _)]) (kE8 rfl rfl rfl rfl rfl rfl rfl rfl)
 refine zAa ?_
 iterate 2 (refine zd E ?_; clear E a; intro a E)
 refine zAf rfl (zCn (by' := 1) E S rfl rfl dZ rfl rfl rfl rfl rfl rfl rfl rfl rfl rfl rfl (k := 35072) (mkb oZ) (by simp only [maxLen]; omega) ?_); clear E S a; intro a w g35 E S
 rw [hz] at S
 refine zAg E rfl rfl dZ rfl Tryz.func69 rfl yZ rfl (dwon_ret q R C hC hR i x hx hf oZ oZ 0 _ zs [(g35, _)] (by rw [hzl]; exact zBn (T := 5) (by rw [zAv, hzl]) (zCq _) oZ _) ⟨_, _, by rw [hzl], by rw [hzl]; exact Nat.le_refl _⟩ (by unfold zDy; rw [hzl]; omega) hmod _ (S.hp.sel sZ)) ?_
 rintro v36 w ⟨rfl, R1, C1, hW1, hR1, hC1, hT'⟩; clear E a; intro a E
 have S := S.call2 sZ hT'; rw [hzl] at hW1
 refine zd E ?_; clear E a; intro a E
 refine wpList_nil ?_
 refine zAb hK ?_; clear hK K
 iterate 2 (refine wp_seq_k ?_; intro K hK)
 refine zAa ?_
 iterate 2 (refine zd E ?_; clear E a; intro a E)
 refine wpList_nil ?_
 refine zAb hK ?_; clear hK K
 refine zCk E rfl (rfl) ?_
 obtain ⟨t1, ht1, ht2, ht3⟩ := hW1.ws
 have hx1 := hW1.atI hx
 have hb1 : R1.ws.length + 8192 ≤ 244335861110 := by rw [ht1, List.length_append]; omega
 have hb2 : R1.pw.wr ≤ 1000000000000000000 := by rw [hW1.wr]; omega
 refine zAa ?_
 iterate 3 (refine zd E ?_; clear E a; intro a E)
 refine zp E (zCo E rfl rfl rfl (by first | exact zEc (y := 18) oZ oZ | exact w_in oZ | exact zBj oZ | exact rfl)) ?_; clear E a; intro a E
 refine zAf rfl (zCn (by' := 1) E S rfl rfl dZ rfl rfl rfl rfl rfl rfl rfl rfl rfl rfl rfl (k := 2304) (mkb oZ) (by simp only [maxLen]; omega) ?_); clear E S a; intro a w g43 E S
 rw [hy] at S
 refine zAg E rfl rfl dZ rfl Tryz.func69 rfl yZ rfl (dwon_ret q R1 C1 hC1 hR1 i _ hx1 hf hb1 hb2 (n - 18) _ zy [(g43, _)] (by rw [hyl]; exact zBn (T := 5) (by rw [zAv, hyl]) (zCq _) oZ _) ⟨_, _, by rw [hyl], by rw [hyl]; exact Nat.le_refl _⟩ (by show zDy x.pl.length ((n - 18 : Nat) : Int) zy; unfold zDy; rw [hyl]; omega) hmod _ (S.hp.sel sZ)) ?_
 rintro v44 w ⟨rfl, R2, C2, hW2, hR2, hC2, hT'⟩; clear E a; intro a E
 have S := S.call2 sZ hT'; rw [hyl] at hW2; have hW2 := hW1.more hW2
 refine zd E ?_; clear E a; intro a E
 refine wpList_nil ?_
 refine zAb hK ?_; clear hK K
 refine wp_seq_k ?_; intro K hK
 refine zAa ?_
 refine zd E ?_; clear E a; intro a E
 refine zAg E rfl rfl dZ rfl Tryz.func70 rfl yZ rfl (dplaces_ret n oZ oZ _) ?_
 rintro v46 w ⟨rfl, hT'⟩; clear E a; intro a E
 have S := S.quiet hT'
 refine zAf rfl (zBs E S rfl rfl dZ rfl rfl rfl ?_); clear E S a; intro a w b11 E S
 refine zAf rfl (zBr E S rfl rfl rfl rfl (by simp [Value.oneCell']) rfl pZ (by simp) ?_); clear E S a; intro a w E S; simp only [List.take_succ_cons, List.take_zero, List.drop_succ_cons, List.drop_zero, List.cons_append, List.nil_append, List.append_nil, List.length_cons, List.length_nil, Nat.zero_add, Nat.add_zero] at S
 refine wpList_nil ?_
 refine zAb hK ?_; clear hK K
 iterate 2 (refine wp_seq_k ?_; intro K hK)
 replace E := E.keep (e' := [(0, _), (1, _), (5, _), (6, _), (7, _), (8, _), (9, _), (11, _)]) (kE8 rfl rfl rfl rfl rfl rfl rfl rfl)
 refine zAa ?_
 refine zd E ?_; clear E a; intro a E
 refine wpList_nil ?_
 refine zAb hK ?_; clear hK K
 refine wp_block ?_
 refine wp_loop_ghost (fun (m : Nat) (a : Act) (w' : World) => ∃ (k : Nat) (R' : Rk) (C' : zAj) (nw : List UInt8), m = 4 - k ∧ k ≤ 4 ∧ RfC q R' C' ∧ RqOk R' ∧ Wrote R x (292 + k) nw R' ∧ (∃ Xs, St w0 [C, O] w' (C' :: D :: [(b11, cel [.int .i64 (plc n 0), .int .i64 (plc n 1), .int .i64 (plc n 2), .int .i64 (plc n 3)] 146)] :: [(b5, cel [.int .u64 l.pool, .slice (some ⟨ob, oo, none⟩) l.tops.length c, .int .i64 l.top, .int .i64 l.place] 76)] :: O :: Xs)) ∧ Fr a 77 [(0, ptr q), (1, .int .i64 i), (5, ptr b5), (8, .slice add lb.length cd), (9, .int .i64 0), (11, ptr b11), (12, .int .i64 k)]) (4 - 0) ?_ ?_
 ·exact ⟨0, R2, C2, _, rfl, by omega, hC2, hR2, hW2, ⟨_, S.front5 (A := C2) pZ (B := D) pZ (C := [(b11, _)]) pZ (D := [(b5, _)]) pZ (F := O) pZ⟩, E.keep (kE7 rfl rfl rfl rfl rfl rfl rfl)⟩
 clear E; clear a; (try clear S); rintro m a w ⟨k, R', C', nw, rfl, hk, hC', hR', hW, ⟨Xs, S⟩, E⟩
 iterate 2 (refine wp_seq_k ?_; intro K hK)
 refine zAa ?_
 iterate 2 (refine zd E ?_; clear E a; intro a E)
 refine wpList_nil ?_
 refine zAb hK ?_; clear hK K
 refine zAs E rfl (fun hb => ?_) (fun hb => ?_)
 ·replace hb := Nrm.nrm hb
  refine wp_skip ?_
  refine zAb hK ?_; clear hK K
  refine wp_seq_k ?_; intro K hK
  refine wp_block ?_
  refine wp_seq_k ?_; intro K hK
  refine zAa ?_
  iterate 2 (refine zd E ?_; clear E a; intro a E)
  refine wpList_nil ?_
  refine zAb hK ?_; clear hK K
  refine zCk E rfl (rfl) ?_
  have hk4 : k < 4 := by omega
  obtain ⟨t1, ht1, ht2, ht3⟩ := hW.ws
  have hx1 := hW.atI hx
  have hb1 : R'.ws.length + 8192 ≤ 244335861110 := by rw [ht1, List.length_append]; omega
  have hb2 : R'.pw.wr ≤ 1000000000000000000 := by rw [hW.wr]; omega
  have hpk : plc n k + 1 ≤ n := by unfold plc; split; omega; split; omega; split <;> omega
  refine zAa ?_
  iterate 3 (refine zd E ?_; clear E a; intro a E)
  refine zp E (by first | exact zAp E rfl rfl rfl rfl rfl rfl oZ | exact zAz E rfl rfl rfl rfl rfl rfl oZ | exact zAm E rfl rfl rfl rfl rfl rfl oZ) ?_; clear E a; intro a E
  refine zp E (zAo E rfl rfl rfl (zBv (S.get (show List.Perm _ ([(b11, _)] :: _) from pZ)) (v := .int .i64 (plc n k)) (by rcases (show k = 0 ∨ k = 1 ∨ k = 2 ∨ k = 3 by omega) with rfl | rfl | rfl | rfl <;> rfl))) ?_; clear E a; intro a E
  refine zd E ?_; clear E a; intro a E
  refine zAg E rfl rfl dZ rfl Tryz.func69 rfl yZ rfl (dwon_ret q R' C' hC' hR' i _ hx1 hf hb1 hb2 (plc n k) _ lb D hD.rd ⟨_, _, rfl, hcd⟩ (by show zDy x.pl.length (plc n k : Int) lb; unfold zDy; omega) hmod _ (S.hp.sel sZ)) ?_
  rintro v59 w ⟨rfl, R3, C3, hW3, hR3, hC3, hT'⟩; clear E a; intro a E
  have S := S.call2 sZ hT'; rw [hbl] at hW3; have hW3 := hW.more hW3
  refine zd E ?_; clear E a; intro a E
  refine wpList_nil ?_
  refine zAq ?_
  refine zAb hK ?_; clear hK K
  refine zAa ?_
  refine zd E ?_; clear E a; intro a E
  refine zp E (zAy E rfl rfl rfl (by first | exact zBq (y := 1) oZ | exact w_in oZ | exact zBj oZ | exact rfl)) ?_; clear E a; intro a E
  refine zd E ?_; clear E a; intro a E
  refine wpList_nil ?_
  refine zAn ?_
  exact ⟨_, by omega, k + 1, R3, C3, _, rfl, by omega, hC3, hR3, hW3, ⟨_, S.front5 (A := C3) pZ (B := D) pZ (C := [(b11, _)]) pZ (D := [(b5, _)]) pZ (F := O) pZ⟩, E.keep (kE7 rfl rfl rfl rfl rfl rfl rfl)⟩
 ·replace hb := Nrm.nrm hb
  refine wp_exit ?_
  refine zAl ?_; clear hK K
  refine zAl ?_
  refine zBi ?_
  refine zAb hK ?_; clear hK K
  iterate 2 (refine wp_seq_k ?_; intro K hK)
  refine zAa ?_
  iterate 2 (refine zd E ?_; clear E a; intro a E)
  refine wpList_nil ?_
  refine zAb hK ?_; clear hK K
  refine zCk E rfl (rfl) ?_
  obtain rfl : k = 4 := by omega
  obtain ⟨t1, ht1, ht2, ht3⟩ := hW.ws
  have hx1 := hW.atI hx
  have hx1m := List.mem_of_getElem? hx1
  refine zAa ?_
  iterate 2 (refine zd E ?_; clear E a; intro a E)
  refine zAg E rfl rfl dZ rfl Tryz.func71 rfl yZ rfl (qflush_ret q R' C' hC' hR'.dk hR'.wt hR'.now (by rw [ht1, List.length_append]; omega) i _ hx1 _ (S.hp.sel sZ)) ?_
  rintro v64 w ⟨rfl, C3, hC3, hT'⟩; clear E a; intro a E
  have S := S.call1 sZ hT'; obtain ⟨h0, hFl⟩ := hW.flush hf; rw [h0] at E
  refine zd E ?_; clear E a; intro a E
  refine wpList_nil ?_
  refine zAb hK ?_; clear hK K
  iterate 2 (refine wp_seq_k ?_; intro K hK)
  refine zAa ?_
  iterate 2 (refine zd E ?_; clear E a; intro a E)
  refine wpList_nil ?_
  refine zAb hK ?_; clear hK K
  refine zAt E rfl (rfl) ?_
  refine wp_skip ?_
  refine zAb hK ?_; clear hK K
  refine wp_seq_k ?_; intro K hK
  refine zAa ?_
  refine zp E (by first | exact zAc (q := 1) E rfl rfl rfl | exact zAd (q := 1) E rfl rfl rfl) ?_; clear E a; intro a E
  refine zd E ?_; clear E a; intro a E
  have S := S.addNil
  refine zAf rfl (zBl (by' := 24) E S rfl rfl dZ rfl rfl (Buf.nil 144 3) pZ (hT.src (S.stab.at mZ) rfl) rfl rfl rfl rfl rfl rfl (by simp only [maxLen]; omega) oZ ?_); clear E S a; intro a w v70 C70 E S hB70
  obtain ⟨adt, ct, rfl⟩ := hB70.slice
  refine zp E (by first | exact zAc (q := 1) E rfl rfl rfl | exact zAd (q := 1) E rfl rfl rfl) ?_; clear E a; intro a E
  refine zAf rfl (zBa E S rfl rfl rfl rfl rfl rfl pZ (by first | exact Nat.le_of_ble_eq_true rfl | (simp; done) | (simp; omega)) ?_); clear E S a; intro a w E S; try dsimp only [List.set] at S
  refine wpList_nil ?_
  refine zAb hK ?_; clear hK K
  refine wp_seq_k ?_; intro K hK
  refine zAa ?_
  iterate 2 (refine zd E ?_; clear E a; intro a E)
  refine zp E (zBf (vs := [_, _, _, _]) E rfl rfl rfl (S.get pZ) rfl rfl) ?_; clear E a; intro a E
  refine zp E (zBt (cells := [_, _, _, _, _, _, _, _, _]) E rfl rfl rfl) ?_; clear E a; intro a E
  refine zAf rfl (zBz E S rfl rfl dZ rfl rfl ?_); clear E S a; intro a w b76 E S
  iterate 2 (refine zd E ?_; clear E a; intro a E)
  refine wpList_nil ?_
  refine zAb hK ?_; clear hK K
  refine wp_ret ?_
  refine ret2 E rfl rfl rfl ?_
  exact ⟨_, rfl, b76, _, _, C3, nw, rfl, ⟨_, _, _, _, _, _, _, rfl⟩, hC3, hR'.flush hx1m, hFl, (S.only (Bs := [[(b76, _)], C3, O]) sZ).tr⟩
end Go.Proofs.YtpjidiaekifmbaaGreatDoor
namespace Go.Proofs.YtpjidiaekifmbaaGreatDoor
open Go.Sl
set_option maxRecDepth 10000
structure Fresh (i : Nat) (R : Rk) : Prop where
 on : On R
 len : R.ds.length = i
 ws : R.ws = []
 wr : R.pw.wr = 296 * i
 ok : ∀ y ∈ R.ds, y.failed = false ∧ y.pl.length = 41472
 dk : DkOk R.ds
theorem Fresh.zero : Fresh 0 ⟨⟨-1, false, 0⟩, [], []⟩ := ⟨⟨rfl, rfl⟩, rfl, rfl, rfl, by simp, by simp [DkOk]⟩
structure Added (R : Rk) (x : Dk) (R' : Rk) : Prop where
 pw : R'.pw = R.pw
 ws : R'.ws = R.ws
 ds : R'.ds = R.ds ++ [x]
 ne : ∀ y ∈ R.ds, y.d ≠ x.d
 fl : x.failed = false
 pl : x.pl.length = 41472
 nw : x.now.length = 41472
theorem added {R : Rk} {d gp gn : Nat} (h : ∀ y ∈ R.ds, y.d ≠ d) : ∃ x, x.d = d ∧ Added R x (R.add d gp gn 324) :=
 ⟨⟨d, gp, gn, List.replicate (324 * 128) 0, List.replicate (324 * 128) 0, false⟩, rfl, rfl, rfl, rfl, h, rfl, List.length_replicate, List.length_replicate⟩
theorem Added.dk {R R' : Rk} {x : Dk} (h : Added R x R') (hd : DkOk R.ds) : DkOk R'.ds := by
 obtain ⟨h1, h2⟩ := hd
 rw [h.ds]
 refine ⟨?_, fun y hy => ?_⟩
 ·rw [List.map_append, List.nodup_append]
  refine ⟨h1, by simp, fun a ha b hb => ?_⟩
  simp only [List.map_cons, List.map_nil, List.mem_singleton] at hb
  subst hb
  obtain ⟨y, hy, rfl⟩ := List.mem_map.1 ha
  exact h.ne y hy
 ·rcases List.mem_append.1 hy with hy | hy
  ·exact h2 y hy
  ·rw [List.mem_singleton.1 hy, h.pl, h.nw]; omega
theorem Added.at {R R' : Rk} {x : Dk} (h : Added R x R') : x ∈ R'.ds := by rw [h.ds]; simp
theorem Added.on {R R' : Rk} {x : Dk} (h : Added R x R') (hO : On R) : On R' := ⟨by rw [h.pw]; exact hO.off, by rw [h.pw]; exact hO.left⟩
theorem Fresh.step {i : Nat} {R R1 R2 : Rk} {x : Dk} {F : List UInt8} (h : Fresh i R) (ha : Added R x R1) (hf : Wrote.Fl R1 x 296 F R2) : Fresh (i + 1) R2 ∧ R2.ds.map Dk.d = R.ds.map Dk.d ++ [x.d] := by
 have hds : R2.ds = R.ds ++ [{ x with pl := F, now := F }] := by
  rw [hf.ds, ha.ds, setD, List.map_append]
  congr 1
  ·conv => rhs; rw [← List.map_id R.ds]
   exact List.map_congr_left fun y hy => by rw [if_neg (ha.ne y hy)]; rfl
  ·simp
 refine ⟨⟨hf.on, by rw [hds]; simp [h.len], by rw [hf.ws, ha.ws, h.ws]; rfl, by rw [hf.wr, ha.pw, h.wr]; omega, fun y hy => ?_, ?_⟩, by rw [hds]; simp⟩
 ·rw [hds] at hy
  rcases List.mem_append.1 hy with hy | hy
  ·exact h.ok y hy
  ·rw [List.mem_singleton.1 hy]; exact ⟨ha.fl, by rw [← ha.pl, ← hf.ln]⟩
 ·have h1 := (ha.dk h.dk).1
  refine ⟨?_, fun y hy => ?_⟩
  ·rw [hds]; rw [ha.ds] at h1; simpa using h1
  ·rw [hds] at hy
   rcases List.mem_append.1 hy with hy | hy
   ·exact h.dk.2 y hy
   ·rw [List.mem_singleton.1 hy]
    have h5 := hf.ln
    have h6 := ha.pl
    exact ⟨rfl, by show F.length ≤ _; omega⟩
def lab0 : Lbl := ⟨3, [⟨1, 1, 324⟩], 0, 0⟩
theorem lab0_ok : lab0.Ok := ⟨by decide, by decide, by decide, fun t ht => by
 rw [show lab0.tops = [⟨1, 1, 324⟩] from rfl, List.mem_singleton] at ht; subst ht; exact ⟨by decide, by decide, by decide⟩⟩
theorem lab0_e : lbE lab0 = 0 := by decide
theorem lab0_sec : (lab0.tops.getD lab0.top.toNat zIe).sectors = (324 : Nat) := rfl
theorem newd_ret (p : Nat) (R : Rk) (C : zAj) (hC : RkC p R C) (hl : R.ds.length ≤ 1000) (w0 : World) (H : Hp w0 [C]) :
  Ret Tryz.prog 26 #[ptr p, .int .i64 324] w0 fun u w' => ∃ x R' C', u = .tuple #[ptr x.d, .int .i64 0] ∧ Added R x R' ∧ RkC p R' C' ∧ Trs w0 w' [C] [C'] := by
 refine (rk_new p R C hC hl 324 oZ oZ w0 H).mono fun u w' ⟨d, gp, gn, C', hu, hne, hC', hT⟩ => ?_
 obtain ⟨x, hxd, hA⟩ := added (gp := gp) (gn := gn) hne
 exact ⟨x, _, C', by rw [hxd]; exact hu, hA, hC', hT⟩
theorem exists_above (l : List Nat) : ∃ d, ∀ y ∈ l, y ≠ d := by
 suffices h : ∃ d, ∀ y ∈ l, y < d by obtain ⟨d, hd⟩ := h; exact ⟨d, fun y hy => Nat.ne_of_lt (hd y hy)⟩
 induction l with
 | nil => exact ⟨0, by simp⟩
 | cons a r ih =>
  obtain ⟨d, hd⟩ := ih
  refine ⟨d + a + 1, fun y hy => ?_⟩
  rcases List.mem_cons.1 hy with rfl | hy
  ·omega
  ·have := hd y hy; omega
theorem qnewd_ret (q : Nat) (R : Rk) (C : zAj) (hC : RfC q R C) (hR : RqOk R) (hl : R.ds.length ≤ 1000) (w0 : World) (H : Hp w0 [C]) :
  Ret Tryz.prog 27 #[ptr q, .int .i64 324] w0 fun u w' => ∃ x R' C', u = .tuple #[.int .i64 R.ds.length, .int .i64 0] ∧ Added R x R' ∧ RqOk R' ∧ RfC q R' C' ∧ Trs w0 w' [C] [C'] := by
 refine (qadd_ret q R C hC hl 324 oZ oZ w0 H).mono fun u w' ⟨C', hu, hC', hT⟩ => ?_
 obtain ⟨d, hd⟩ := exists_above (R.ds.map Dk.d)
 have hne : ∀ y ∈ R.ds, y.d ≠ d := fun y hy => hd _ (List.mem_map_of_mem hy)
 obtain ⟨x, hxd, hA⟩ := added (gp := 0) (gn := 0) hne
 refine ⟨x, _, C', hu, hA, ⟨hA.dk hR.dk, fun w hw => ?_, now_add hR.wt hR.now d 0 0 324 hne, hA.on hR.on⟩, hC' d 0 0, hT⟩
 obtain ⟨⟨y, hy, hyd⟩, h2⟩ := hR.wt w hw
 refine ⟨⟨y, by rw [hA.ds]; exact List.mem_append_left _ hy, hyd⟩, fun z hz hzd => ?_⟩
 rw [hA.ds] at hz
 rcases List.mem_append.1 hz with hz | hz
 ·exact h2 z hz hzd
 ·rw [List.mem_singleton.1 hz] at hzd
  exact absurd (hyd.trans hzd.symm) (hA.ne y hy)
end Go.Proofs.YtpjidiaekifmbaaGreatDoor
namespace Go.Proofs.YtpjidiaekifmbaaGreatDoor
open Go.Sl
set_option maxRecDepth 10000
def DvC (q : Nat) : List (Nat × Nat) → zAj → Prop
 | [], C => C = []
 | m :: r, C => ∃ L C', DlC m.1 q m.2 L ∧ DvC q r C' ∧ C = L ++ C'
theorem DvC.at {q : Nat} : ∀ {ms : List (Nat × Nat)} {C : zAj} (_ : DvC q ms C) {i : Nat} {x : Nat × Nat} (_ : ms[i]? = some x), ∃ A L B, C = A ++ (L ++ B) ∧ DlC x.1 q x.2 L
 | m :: r, C, h, i, x, hi => by
  obtain ⟨L0, C', h1, h2, rfl⟩ := h
  cases i with
  | zero => simp at hi; subst hi; exact ⟨[], L0, C', rfl, h1⟩
  | succ i =>
   obtain ⟨A, L, B, rfl, g2⟩ := DvC.at (ms := r) h2 (i := i) (by simpa using hi)
   exact ⟨L0 ++ A, L, B, by rw [List.append_assoc], g2⟩
 | [], _, _, i, x, hi => by simp at hi
theorem DvC.snoc {q : Nat} : ∀ {ms : List (Nat × Nat)} {C : zAj} (_ : DvC q ms C) {x : Nat × Nat} {L : zAj} (_ : DlC x.1 q x.2 L), DvC q (ms ++ [x]) (C ++ L)
 | [], C, h, x, L, hL => by
  have h : C = [] := h
  subst h
  exact ⟨L, [], hL, rfl, by simp⟩
 | y :: r, C, h, x, L, hL => by
  obtain ⟨L0, C', h1, h2, rfl⟩ := h
  exact ⟨L0, C' ++ L, h1, DvC.snoc (ms := r) h2 hL, by rw [List.append_assoc]⟩
section
variable (q : Nat) (R : Rk) (C : zAj) (hC : RfC q R C) (ms : List (Nat × Nat)) (Dv : zAj) (hDv : DvC q ms Dv) (hds : ∀ m ∈ ms, ∃ x, R.ds[m.2]? = some x ∧ x.pl.length = 41472)
include hC hDv hds
theorem dlsize_in (i : Nat) (x : Nat × Nat) (hx : ms[i]? = some x) (w0 : World) (H : Hp w0 [C, Dv]) :
  Ret Tryz.prog 92 #[ptr x.1] w0 fun u w' => u = .int .i64 32 ∧ Trs w0 w' [C, Dv] [C, Dv] := by
 obtain ⟨y, hy, hyl⟩ := hds x (List.mem_of_getElem? hx)
 obtain ⟨A, L, B, rfl, u1, u2, u3, u4, u5, u6, u7, rfl⟩ := hDv.at hx
 have S := ((St.begin H).perm2).openMid
 suffices h : ∀ w1, Hp w1 [C, [(x.1, cel [ptr q, .int .i64 x.2, u1, u2, u3, u4, u5, u6, u7] 155)]] → Ret Tryz.prog 92 #[ptr x.1] w1 fun u w' => u = .int .i64 32 ∧ Trs w1 w' [C, [(x.1, cel [ptr q, .int .i64 x.2, u1, u2, u3, u4, u5, u6, u7] 155)]] [C, [(x.1, cel [ptr q, .int .i64 x.2, u1, u2, u3, u4, u5, u6, u7] 155)]] by
  refine (h w0 (S.hp.sel sZ)).mono fun u w' ⟨hu, hT⟩ => ?_
  have S := S.call2 sZ hT
  exact ⟨hu, ((S.front3 (A := [(x.1, _)]) pZ (B := A) pZ (C := B) pZ).closeMid.perm2).tr⟩
 clear S H w0
 intro w0 H
 have S := St.begin H
 refine zCh 13 Tryz.func92 rfl rfl dZ ?_; intro a E
 refine wp_seq_k ?_; intro K hK
 refine zAa ?_
 refine zd E ?_; clear E a; intro a E
 refine wpList_nil ?_
 refine zAb hK ?_; clear hK K
 refine wp_seq_k ?_; intro K hK
 refine zAw S (.ofL [(0, 0), (1, 0), (2, 0), (3, 0), (4, 0), (5, 0), (6, 0), (7, 0), (8, 3), (9, 2), (10, 2)]) yZ yZ ?_
 clear S; intro w S
 iterate 2 (refine zmd E ?_; clear E a; intro a E)
 refine zm E rfl (fun w h => by first | exact zAc (q := 0) E rfl rfl rfl | exact zAd (q := 0) E rfl rfl rfl) ?_; clear E a; intro a E
 iterate 3 (refine zmd E ?_; clear E a; intro a E)
 refine zm E rfl (fun w h => by first | exact zAc (q := 1) E rfl rfl rfl | exact zAd (q := 1) E rfl rfl rfl) ?_; clear E a; intro a E
 refine zmd E ?_; clear E a; intro a E
 refine zDd E rfl rfl rfl dZ rfl Tryz.func68 rfl yZ rfl (zJe q R C hC x.2 y hy _ (S.hp.sel sZ)) ?_
 rintro v11 w ⟨rfl, hT⟩; clear E a; intro a E
 have S := S.call1 sZ hT; rw [hyl] at E
 refine zBp E rfl rfl rfl dZ (fun w => zCo E rfl rfl rfl (show _ = (32 : Int) by rfl)) ?_; clear E a; intro a E
 refine zBp E rfl rfl rfl dZ (fun w => zCi E rfl rfl) ?_; clear E a; intro a E
 refine zBd ?_
 refine zAb hK ?_; clear hK K
 refine wp_ret ?_
 refine ret1 E rfl rfl ?_
 exact ⟨_, rfl, rfl, (S.only (Bs := [C, _]) sZ).tr⟩
theorem alike_ret (O : zAj) (v : Value) (hO : Rd O 1 v ms.length (ms.map fun m => ptr m.1)) (hl : ms.length ≤ 1000) (w0 : World) (H : Hp w0 [C, Dv, O]) :
  Ret Tryz.prog 73 #[v] w0 fun u w' => ∃ z : Int, (0 < ms.length → z = 32) ∧ u = .tuple #[.int .i64 z, .int .i64 ms.length] ∧ Trs w0 w' [C, Dv, O] [C, Dv, O] := by
 have S := St.begin H
 obtain ⟨ad, c, rfl⟩ := hO.slice
 refine zCh 39 Tryz.func73 rfl rfl dZ ?_; intro a E
 refine wp_seq_k ?_; intro K hK
 refine zAa ?_
 iterate 2 (refine zd E ?_; clear E a; intro a E)
 refine wpList_nil ?_
 refine zAb hK ?_; clear hK K
 refine wp_seq_k ?_; intro K hK
 refine zAa ?_
 refine zd E ?_; clear E a; intro a E
 refine wpList_nil ?_
 refine zAb hK ?_; clear hK K
 refine wp_seq_k ?_; intro K hK
 refine zAa ?_
 refine zd E ?_; clear E a; intro a E
 refine wpList_nil ?_
 refine zAb hK ?_; clear hK K
 iterate 2 (refine wp_seq_k ?_; intro K hK)
 refine zAa ?_
 refine zd E ?_; clear E a; intro a E
 refine wpList_nil ?_
 refine zAb hK ?_; clear hK K
 refine wp_block ?_
 refine wp_loop_ghost (fun (m : Nat) (a : Act) (w' : World) => ∃ (i : Nat) (z : Int), m = ms.length - i ∧ i ≤ ms.length ∧ (0 < i → z = 32) ∧ St w0 [C, Dv, O] w' [C, Dv, O] ∧ Fr a 39 [(0, .slice ad ms.length c), (4, .int .i64 z), (5, .int .i64 i), (6, .int .i64 i)]) (ms.length - 0) ?_ ?_
 ·exact ⟨0, 0, rfl, by omega, fun q => absurd q oZ, S, E.keep (kE4 rfl rfl rfl rfl)⟩
 clear E; clear a; (try clear S); rintro m a w ⟨i, z, rfl, hi, hz, S, E⟩
 iterate 2 (refine wp_seq_k ?_; intro K hK)
 refine zAa ?_
 iterate 4 (refine zd E ?_; clear E a; intro a E)
 refine wpList_nil ?_
 refine zAb hK ?_; clear hK K
 refine zAs E rfl (fun hb => ?_) (fun hb => ?_)
 ·replace hb := Nrm.nrm hb
  refine wp_skip ?_
  refine zAb hK ?_; clear hK K
  refine wp_seq_k ?_; intro K hK
  refine wp_block ?_
  iterate 2 (refine wp_seq_k ?_; intro K hK)
  have hil : i < ms.length := by omega
  have hat : ms[i]? = some ms[i] := List.getElem?_eq_getElem hil
  have hcell : (ms.map fun m => ptr m.1)[i]? = some (ptr ms[i].1) := by rw [List.getElem?_map, hat]; rfl
  obtain ⟨g, off, rfl⟩ := hO.addr oZ
  refine zAa ?_
  iterate 2 (refine zd E ?_; clear E a; intro a E)
  refine zp E (by first | exact zAp E rfl rfl rfl rfl rfl rfl oZ | exact zAz E rfl rfl rfl rfl rfl rfl oZ | exact zAm E rfl rfl rfl rfl rfl rfl oZ) ?_; clear E a; intro a E
  refine zp E (zAo E rfl rfl rfl (hO.cells (S.stab.at mZ) rfl i _ hcell)) ?_; clear E a; intro a E
  refine zd E ?_; clear E a; intro a E
  refine wpList_nil ?_
  refine zAb hK ?_; clear hK K
  refine zAt E rfl (rfl) ?_
  refine wp_skip ?_
  refine zAb hK ?_; clear hK K
  iterate 2 (refine wp_seq_k ?_; intro K hK)
  refine zDl (fun (a : Act) (w' : World) => St w0 [C, Dv, O] w' [C, Dv, O] ∧ Fr a 39 [(0, .slice (some ⟨g, off, none⟩) ms.length c), (4, .int .i64 z), (5, .int .i64 i), (6, .int .i64 i), (28, .bool false)]) ?_ ?_
  ·skip
   refine zAa ?_
   iterate 3 (refine zd E ?_; clear E a; intro a E)
   refine zAr E (t := 20) rfl (fun hb20 => ?_) (fun hb20 => ?_)
   ·have hb20n := hb20; replace hb20n := Nrm.nrm hb20n
    iterate 2 (refine zyd E hb20 ?_; clear E a; intro a E)
    refine zy E hb20 (by first | exact zAp E rfl rfl rfl rfl rfl rfl oZ | exact zAz E rfl rfl rfl rfl rfl rfl oZ | exact zAm E rfl rfl rfl rfl rfl rfl oZ) ?_; clear E a; intro a E
    refine zy E hb20 (zAo E rfl rfl rfl (hO.cells (S.stab.at mZ) rfl i _ hcell)) ?_; clear E a; intro a E
    refine zBy E rfl rfl rfl rfl hb20 ?_; refine zCe E rfl dZ rfl Tryz.func92 rfl yZ rfl (dlsize_in q R C hC ms Dv hDv hds i ms[i] hat _ (S.hp.sel sZ)) ?_
    rintro v25 w ⟨rfl, hT⟩; clear E a; intro a E
    have S := S.call2 sZ hT
    iterate 2 (refine zyd E hb20 ?_; clear E a; intro a E)
    refine zp E (zAi E rfl rfl hb20 rfl) ?_; clear E a; intro a E
    refine wpList_nil ?_
    refine zAx ?_
    rw [show z = 32 from hz oZ] at E ⊢; exact ⟨S, E.keep (kE5 rfl rfl rfl rfl rfl)⟩
   ·have hb20n := hb20; replace hb20n := Nrm.nrm hb20n
    iterate 7 (refine zn E hb20 ?_; clear E a; intro a E)
    refine zp E (zAk E rfl rfl hb20 rfl) ?_; clear E a; intro a E
    refine wpList_nil ?_
    refine zAx ?_
    exact ⟨S, E.keep (kE5 rfl rfl rfl rfl rfl)⟩
  ·clear E S a; intro a w J; obtain ⟨S, E⟩ := J
   refine zAb hK ?_; clear hK K
   refine zAt E rfl (rfl) ?_
   refine wp_skip ?_
   refine zAb hK ?_; clear hK K
   refine wp_seq_k ?_; intro K hK
   refine zAa ?_
   iterate 2 (refine zd E ?_; clear E a; intro a E)
   refine zp E (by first | exact zAp E rfl rfl rfl rfl rfl rfl oZ | exact zAz E rfl rfl rfl rfl rfl rfl oZ | exact zAm E rfl rfl rfl rfl rfl rfl oZ) ?_; clear E a; intro a E
   refine zp E (zAo E rfl rfl rfl (hO.cells (S.stab.at mZ) rfl i _ hcell)) ?_; clear E a; intro a E
   refine zAg E rfl rfl dZ rfl Tryz.func92 rfl yZ rfl (dlsize_in q R C hC ms Dv hDv hds i ms[i] hat _ (S.hp.sel sZ)) ?_
   rintro v34 w ⟨rfl, hT⟩; clear E a; intro a E
   have S := S.call2 sZ hT
   refine zd E ?_; clear E a; intro a E
   refine wpList_nil ?_
   refine zAb hK ?_; clear hK K
   refine zAa ?_
   refine zd E ?_; clear E a; intro a E
   refine zp E (zAy E rfl rfl rfl (w_in oZ)) ?_; clear E a; intro a E
   refine zd E ?_; clear E a; intro a E
   refine wpList_nil ?_
   refine zAq ?_
   refine zAb hK ?_; clear hK K
   refine zAa ?_
   refine zd E ?_; clear E a; intro a E
   refine zp E (zAy E rfl rfl rfl (w_in oZ)) ?_; clear E a; intro a E
   refine zd E ?_; clear E a; intro a E
   refine wpList_nil ?_
   refine zAn ?_
   exact ⟨_, by omega, i + 1, 32, rfl, by omega, fun _ => rfl, S, E.keep (kE4 rfl rfl rfl rfl)⟩
 ·replace hb := Nrm.nrm hb
  refine wp_exit ?_
  refine zAl ?_; clear hK K
  refine zAl ?_
  refine zBi ?_
  refine zAb hK ?_; clear hK K
  refine wp_seq_k ?_; intro K hK
  obtain rfl : i = ms.length := by omega
  refine zAa ?_
  iterate 4 (refine zd E ?_; clear E a; intro a E)
  refine wpList_nil ?_
  refine zAb hK ?_; clear hK K
  refine wp_ret ?_
  refine ret2 E rfl rfl rfl ?_
  exact ⟨_, rfl, z, hz, rfl, S.tr⟩
theorem dmnew_ret (O : zAj) (v : Value) (hO : Rd O 1 v ms.length (ms.map fun m => ptr m.1)) (hl : 1 ≤ ms.length ∧ ms.length ≤ 5) (w0 : World) (H : Hp w0 [C, Dv, O]) :
  Ret Tryz.prog 74 #[v] w0 fun u w' => ∃ t X, u = .tuple #[ptr t, .int .i64 0] ∧ Trs w0 w' [C, Dv, O] [X, C, Dv, O] := by
 have S := St.begin H
 obtain ⟨ad, c, rfl⟩ := hO.slice
 refine zCh 35 Tryz.func74 rfl rfl dZ ?_; intro a E
 refine wp_seq_k ?_; intro K hK
 refine zAa ?_
 iterate 2 (refine zd E ?_; clear E a; intro a E)
 refine wpList_nil ?_
 refine zAb hK ?_; clear hK K
 refine wp_seq_k ?_; intro K hK
 refine zAa ?_
 refine zd E ?_; clear E a; intro a E
 refine zAg E rfl rfl dZ rfl Tryz.func73 rfl yZ rfl (alike_ret q R C hC ms Dv hDv hds O _ hO oZ _ S.hp) ?_
 rintro v8 w ⟨z, hz, rfl, hT⟩; clear E a; intro a E
 have S := S.all hT; obtain rfl := hz oZ
 iterate 5 (refine zd E ?_; clear E a; intro a E)
 refine wpList_nil ?_
 refine zAb hK ?_; clear hK K
 iterate 2 (refine wp_seq_k ?_; intro K hK)
 refine zAa ?_
 iterate 4 (refine zd E ?_; clear E a; intro a E)
 refine zBg E (t := 14) rfl ((by simp; omega)) (fun hb14 => ?_)
 iterate 3 (refine zyd E hb14 ?_; clear E a; intro a E)
 refine zp E (zAk E rfl rfl hb14 rfl) ?_; clear E a; intro a E
 refine zd E ?_; clear E a; intro a E
 refine zBg E (t := 19) rfl ((by simp; omega)) (fun hb19 => ?_)
 iterate 2 (refine zyd E hb19 ?_; clear E a; intro a E)
 refine zp E (zAk E rfl rfl hb19 rfl) ?_; clear E a; intro a E
 refine zd E ?_; clear E a; intro a E
 refine zBg E (t := 23) rfl ((by have h1 := hl.1; simp only [beq_eq_false_iff_ne, ne_eq]; omega)) (fun hb23 => ?_)
 iterate 2 (refine zyd E hb23 ?_; clear E a; intro a E)
 refine zp E (zAk E rfl rfl hb23 rfl) ?_; clear E a; intro a E
 refine wpList_nil ?_
 refine zAb hK ?_; clear hK K
 refine zAt E rfl (rfl) ?_
 refine wp_skip ?_
 refine zAb hK ?_; clear hK K
 refine wp_seq_k ?_; intro K hK
 replace E := E.keep (e' := [(0, _), (2, _), (3, _), (4, _)]) (kE4 rfl rfl rfl rfl)
 have S := S.addNil
 refine zDe S (.cons (0, 0) (.cons (2, 0) (.cons (3, 0) (.cons (5, 0) (.fork 1 (.ofL [(4, 1), (6, 0), (7, 3), (8, 2), (9, 2)]) 4 (.ofL [(1, 1), (6, 0), (7, 3), (8, 2), (9, 2)])))))) [O] (fun h => h.sub (by first | (simp; done) | (simp +contextual; done) | (simp [*]; done))) yZ yZ ?_
 clear S; intro w S
 iterate 4 (refine zmd E ?_; clear E a; intro a E)
 refine ⟨?_, ?_⟩
 ·skip
  refine zDb rfl rfl (zBl (by' := 8) E S rfl rfl dZ rfl rfl (Buf.nil 78 1) pZ (hO.src (S.stab.at mZ) rfl) rfl rfl rfl rfl rfl rfl (by simp only [maxLen]; omega) oZ ?_); clear E S a; intro a w v28 C28 E S hB28; refine ⟨S.stab.sub (by first | (simp; done) | (simp +contextual; done) | (simp [*]; done)), ?_⟩
  obtain ⟨ad1, c1, rfl⟩ := hB28.slice
  refine zDb rfl rfl (zGm E S rfl rfl dZ rfl rfl rfl rfl rfl rfl rfl (zJd ms.length) (by show 24 * ms.length ≤ _; omega) (by simp only [maxLen]; omega) ?_); clear E S a; intro a w v31 C31 E S hB31 hv31; refine ⟨S.stab.sub (by first | (simp; done) | (simp +contextual; done) | (simp [*]; done)), ?_⟩
  obtain ⟨ad2, c2, rfl⟩ := hB31.slice
  refine zm E rfl (fun w h => zBt (cells := [_, _, _]) E rfl rfl rfl) ?_; clear E a; intro a E
  refine zCd rfl rfl (zBz E S rfl rfl dZ rfl rfl ?_); clear E S a; intro a w b34 E S
  iterate 2 (refine zBp E rfl rfl rfl dZ (fun w => zCi E rfl rfl) ?_; clear E a; intro a E)
  refine zBd ?_
  refine zAb hK ?_; clear hK K
  refine wp_ret ?_
  refine ret2 E rfl rfl rfl ?_
  exact ⟨_, rfl, _, [(b34, _)], rfl, (S.only (Bs := [[(b34, _)], C, Dv, O]) sZ).tr⟩
 ·skip
  refine zDb rfl rfl (zGm E S rfl rfl dZ rfl rfl rfl rfl rfl rfl rfl (zJd ms.length) (by show 24 * ms.length ≤ _; omega) (by simp only [maxLen]; omega) ?_); clear E S a; intro a w v31 C31 E S hB31 hv31; refine ⟨S.stab.sub (by first | (simp; done) | (simp +contextual; done) | (simp [*]; done)), ?_⟩
  obtain ⟨ad2, c2, rfl⟩ := hB31.slice
  refine zDb rfl rfl (zBl (by' := 8) E S rfl rfl dZ rfl rfl (Buf.nil 78 1) pZ (hO.src (S.stab.at mZ) rfl) rfl rfl rfl rfl rfl rfl (by simp only [maxLen]; omega) oZ ?_); clear E S a; intro a w v28 C28 E S hB28; refine ⟨S.stab.sub (by first | (simp; done) | (simp +contextual; done) | (simp [*]; done)), ?_⟩
  obtain ⟨ad1, c1, rfl⟩ := hB28.slice
  refine zm E rfl (fun w h => zBt (cells := [_, _, _]) E rfl rfl rfl) ?_; clear E a; intro a E
  refine zCd rfl rfl (zBz E S rfl rfl dZ rfl rfl ?_); clear E S a; intro a w b34 E S
  iterate 2 (refine zBp E rfl rfl rfl dZ (fun w => zCi E rfl rfl) ?_; clear E a; intro a E)
  refine zBd ?_
  refine zAb hK ?_; clear hK K
  refine wp_ret ?_
  refine ret2 E rfl rfl rfl ?_
  exact ⟨_, rfl, _, [(b34, _)], rfl, (S.only (Bs := [[(b34, _)], C, Dv, O]) sZ).tr⟩
end
end Go.Proofs.YtpjidiaekifmbaaGreatDoor
namespace Go.Proofs.YtpjidiaekifmbaaGreatDoor
open Go.Sl
set_option maxRecDepth 10000
structure RigOk (n p : Nat) (R : Rk) (C : zAj) (xs : List (Nat × Nat)) (Lv : zAj) : Prop where
 rk : RkC p R C
 fr : Fresh n R
 len : xs.length = n
 ds : R.ds.map Dk.d = xs.map Prod.snd
 lv : LvC (lvs xs) Lv
theorem RigOk.has {n p : Nat} {R : Rk} {C : zAj} {xs : List (Nat × Nat)} {Lv : zAj} (h : RigOk n p R C xs Lv) : ∀ x ∈ xs, R.has x.2 := fun x hx => by
 have : x.2 ∈ R.ds.map Dk.d := by rw [h.ds]; exact List.mem_map_of_mem hx
 obtain ⟨y, h1, h2⟩ := List.mem_map.1 this
 exact ⟨y, h1, h2⟩
theorem RigOk.dk {n p : Nat} {R : Rk} {C : zAj} {xs : List (Nat × Nat)} {Lv : zAj} (h : RigOk n p R C xs Lv) : ∀ x ∈ xs, (dkOf R x.2).failed = false ∧ (dkOf R x.2).pl.length = 41472 := fun x hx =>
 h.fr.ok _ (zCw (h.has x hx)).1
theorem RigOk.size {n p : Nat} {R : Rk} {C : zAj} {xs : List (Nat × Nat)} {Lv : zAj} (h : RigOk n p R C xs Lv) : ∀ x ∈ xs, zEa (dkOf R x.2) = 32 := fun x hx => by
 unfold zEa; rw [(h.dk x hx).2]; rfl
theorem RigOk.nd {n p : Nat} {R : Rk} {C : zAj} {xs : List (Nat × Nat)} {Lv : zAj} (h : RigOk n p R C xs Lv) : (xs.map Prod.snd).Nodup := by rw [← h.ds]; exact h.fr.dk.1
end Go.Proofs.YtpjidiaekifmbaaGreatDoor
namespace Go.Proofs.YtpjidiaekifmbaaGreatDoor
open Go.Sl
set_option maxRecDepth 10000
theorem dkOf_setD {R R' : Rk} {d : Nat} {g : Dk → Dk} (hg : ∀ y, (g y).d = y.d) (h : R'.ds = setD R.ds d g) (hnd : (R.ds.map Dk.d).Nodup) {e : Nat} (he : R.has e) :
  R'.has e ∧ dkOf R' e = if e = d then g (dkOf R e) else dkOf R e := by
 obtain ⟨h1, h2⟩ := zCw he
 have hm : (if (dkOf R e).d = d then g (dkOf R e) else dkOf R e) ∈ R'.ds := by rw [h]; exact List.mem_map.2 ⟨_, h1, rfl⟩
 have hnd' : (R'.ds.map Dk.d).Nodup := by rw [h, setD_ds hg]; exact hnd
 rw [h2] at hm
 by_cases q : e = d
 ·rw [if_pos q] at hm ⊢
  have := dkOf_eq hnd' hm
  rw [hg, h2] at this
  exact ⟨⟨_, hm, by rw [hg, h2]⟩, this⟩
 ·rw [if_neg q] at hm ⊢
  have := dkOf_eq hnd' hm
  rw [h2] at this
  exact ⟨⟨_, hm, h2⟩, this⟩
structure Up (R : Rk) (xs : List (Nat × Nat)) (k : Nat) : Prop where
 on : On R
 nd : (R.ds.map Dk.d).Nodup
 has : ∀ x ∈ xs, R.has x.2
 pl : ∀ x ∈ xs, (dkOf R x.2).pl.length = 41472
 nw : ∀ x ∈ xs, (dkOf R x.2).now.length = 41472
 ws : R.ws.length ≤ k
 wr : R.pw.wr ≤ 1480 + k
theorem RigOk.up {n p : Nat} {R : Rk} {C : zAj} {xs : List (Nat × Nat)} {Lv : zAj} (h : RigOk n p R C xs Lv) (hn : n ≤ 5) : Up R xs 0 :=
 ⟨h.fr.on, h.fr.dk.1, h.has, fun x hx => (h.dk x hx).2, fun x hx => by rw [(h.fr.dk.2 _ (zCw (h.has x hx)).1).1]; exact (h.dk x hx).2, by rw [h.fr.ws]; simp, by rw [h.fr.wr]; omega⟩
section
variable {R R' : Rk} {xs : List (Nat × Nat)} {k : Nat}
theorem Up.size (h : Up R xs k) : ∀ x ∈ xs, zEa (dkOf R x.2) = 32 := fun x hx => by unfold zEa; rw [h.pl x hx]; rfl
theorem zIp (d : Nat) (ws : List Wt) : (outW d ws).length ≤ ws.length := List.length_filter_le _ _
theorem Up.upd (h : Up R xs k) {y : Nat × Nat} (hy : y ∈ xs) {g : Dk → Dk} (hg : ∀ z, (g z).d = z.d) (hpw : R'.pw = R.pw) (hws : R'.ws.length ≤ R.ws.length) (hds : R'.ds = setD R.ds (dkOf R y.2).d g)
  (hgl : (g (dkOf R y.2)).pl.length = 41472 ∧ (g (dkOf R y.2)).now.length = 41472) : Up R' xs k ∧ ∀ x ∈ xs, dkOf R' x.2 = if x.2 = y.2 then g (dkOf R y.2) else dkOf R x.2 := by
 rw [(zCw (h.has y hy)).2] at hds
 have key : ∀ e, R.has e → R'.has e ∧ dkOf R' e = if e = y.2 then g (dkOf R e) else dkOf R e := fun e he => dkOf_setD hg hds h.nd he
 have key2 : ∀ x ∈ xs, dkOf R' x.2 = if x.2 = y.2 then g (dkOf R y.2) else dkOf R x.2 := fun x hx => by
  rw [(key _ (h.has x hx)).2]
  split
  ·rename_i q; rw [q]
  ·rfl
 refine ⟨⟨⟨by rw [hpw]; exact h.on.off, by rw [hpw]; exact h.on.left⟩, ?_, fun x hx => (key _ (h.has x hx)).1, fun x hx => ?_, fun x hx => ?_, Nat.le_trans hws h.ws, by rw [hpw]; exact h.wr⟩, key2⟩
 ·rw [hds, setD_ds hg]; exact h.nd
 ·rw [key2 x hx]; split; exact hgl.1; exact h.pl x hx
 ·rw [key2 x hx]; split; exact hgl.2; exact h.nw x hx
theorem Up.fail (h : Up R xs k) {y : Nat × Nat} (hy : y ∈ xs) : Up (R.fail (dkOf R y.2)) xs k ∧ ∀ x ∈ xs, dkOf (R.fail (dkOf R y.2)) x.2 = if x.2 = y.2 then { dkOf R y.2 with now := (dkOf R y.2).pl, failed := true } else dkOf R x.2 :=
 h.upd hy (g := fun z => { z with now := (dkOf R y.2).pl, failed := true }) (fun _ => rfl) rfl (zIp _ _) rfl ⟨h.pl y hy, h.pl y hy⟩
theorem Up.corrupt (h : Up R xs k) {y : Nat × Nat} (hy : y ∈ xs) (at_ : Int) (mask : List UInt8) : Up (R.corrupt (dkOf R y.2) at_ mask) xs k ∧
  ∀ x ∈ xs, (dkOf (R.corrupt (dkOf R y.2) at_ mask) x.2).failed = (dkOf R x.2).failed ∧ (x.2 ≠ y.2 → dkOf (R.corrupt (dkOf R y.2) at_ mask) x.2 = dkOf R x.2) := by
 obtain ⟨h1, h2⟩ := h.upd hy (R' := R.corrupt (dkOf R y.2) at_ mask) (g := fun z => { z with pl := coB (dkOf R y.2).failed (dkOf R y.2).pl.length at_ mask (dkOf R y.2).pl, now := coB (dkOf R y.2).failed (dkOf R y.2).pl.length at_ mask (dkOf R y.2).now }) (fun _ => rfl) rfl
  (by show (coWs _ _ _ _ _ _).length ≤ _; unfold coWs; split; (unfold coW; rw [List.length_map]; exact Nat.le_refl _); exact Nat.le_refl _) rfl ⟨by rw [zGy rfl]; exact h.pl y hy, by rw [zGy (by rw [h.pl y hy]; exact h.nw y hy)]; exact h.pl y hy⟩
 refine ⟨h1, fun x hx => ⟨?_, fun q => ?_⟩⟩
 ·rw [h2 x hx]
  split
  ·rename_i q; rw [q]
  ·rfl
 ·rw [h2 x hx, if_neg q]
end
end Go.Proofs.YtpjidiaekifmbaaGreatDoor
namespace Go.Sl
def xr (a b : List UInt8) : List UInt8 := List.zipWith (· ^^^ ·) a b
def z128 : List UInt8 := List.replicate 128 0
theorem zEb : z128.length = 128 := List.length_replicate
def xall (l : List (List UInt8)) : List UInt8 := l.foldl xr z128
section
variable {a b c : List UInt8}
theorem xr_len (ha : a.length = 128) (hb : b.length = 128) : (xr a b).length = 128 := by simp [xr, ha, hb]
theorem xr_comm (a b : List UInt8) : xr a b = xr b a := by
 unfold xr
 exact List.zipWith_comm_of_comm fun x y => UInt8.xor_comm x y
theorem zIf (a b c : List UInt8) : xr (xr a b) c = xr a (xr b c) := by
 induction a generalizing b c with
 | nil => simp [xr]
 | cons x a ih =>
  cases b with
  | nil => simp [xr]
  | cons y b =>
   cases c with
   | nil => simp [xr]
   | cons z c =>
    have := ih b c
    simp only [xr, List.zipWith_cons_cons] at this ⊢
    rw [this, UInt8.xor_assoc]
theorem xr_self_n (a : List UInt8) : xr a a = List.replicate a.length 0 := by
 induction a with
 | nil => rfl
 | cons x a ih =>
  simp only [xr, List.zipWith_cons_cons, List.length_cons, List.replicate_succ] at ih ⊢
  rw [ih, UInt8.xor_self]
theorem xr_zero_n (a : List UInt8) : xr a (List.replicate a.length 0) = a := by
 induction a with
 | nil => rfl
 | cons x a ih =>
  simp only [xr, List.zipWith_cons_cons, List.length_cons, List.replicate_succ] at ih ⊢
  rw [ih, UInt8.xor_zero]
theorem xr_self (ha : a.length = 128) : xr a a = z128 := by rw [xr_self_n, ha]; rfl
theorem xr_zero (ha : a.length = 128) : xr a z128 = a := by
 have := xr_zero_n a
 rwa [ha] at this
theorem zKt (ha : a.length = 128) : xr z128 a = a := by rw [xr_comm, xr_zero ha]
end
def Secs (l : List (List UInt8)) : Prop := ∀ s ∈ l, s.length = 128
theorem Secs.take {l : List (List UInt8)} (h : Secs l) (n : Nat) : Secs (l.take n) := fun s hs => h s (List.mem_of_mem_take hs)
theorem Secs.drop {l : List (List UInt8)} (h : Secs l) (n : Nat) : Secs (l.drop n) := fun s hs => h s (List.mem_of_mem_drop hs)
theorem zIg : ∀ (l : List (List UInt8)) (z : List UInt8), Secs l → z.length = 128 → l.foldl xr z = xr z (xall l) ∧ (l.foldl xr z).length = 128
 | [], z, _, hz => ⟨(xr_zero hz).symm, hz⟩
 | s :: l, z, h, hz => by
  have hs := h s (List.mem_cons_self ..)
  have hl : Secs l := fun t ht => h t (List.mem_cons_of_mem _ ht)
  obtain ⟨h1, h2⟩ := zIg l (xr z s) hl (xr_len hz hs)
  obtain ⟨h3, h4⟩ := zIg l (xr z128 s) hl (xr_len zEb hs)
  refine ⟨?_, h2⟩
  show l.foldl xr (xr z s) = xr z (l.foldl xr (xr z128 s))
  rw [h1, h3, zKt hs, zIf]
theorem zEy {l : List (List UInt8)} (h : Secs l) : (xall l).length = 128 := (zIg l z128 h zEb).2
theorem zGt {s : List UInt8} {l : List (List UInt8)} (hs : s.length = 128) (h : Secs l) : xall (s :: l) = xr s (xall l) := by
 show l.foldl xr (xr z128 s) = _
 rw [zKt hs]; exact (zIg l s h hs).1
theorem xall_snoc {s : List UInt8} {l : List (List UInt8)} : xall (l ++ [s]) = xr (xall l) s := by unfold xall; rw [List.foldl_append]; rfl
theorem xall_set : ∀ (l : List (List UInt8)) (i : Nat) (y : List UInt8) (_ : Secs l) (_ : y.length = 128) (hi : i < l.length), xall (l.set i y) = xr (xall l) (xr l[i] y)
 | s :: l, 0, y, h, hy, _ => by
  have hs := h s (List.mem_cons_self ..)
  have hl : Secs l := fun t ht => h t (List.mem_cons_of_mem _ ht)
  rw [List.set_cons_zero, zGt hy hl, zGt hs hl, List.getElem_cons_zero, xr_comm s (xall l), zIf, ← zIf s s y, xr_self hs, zKt hy, xr_comm]
 | s :: l, i + 1, y, h, hy, hi => by
  have hs := h s (List.mem_cons_self ..)
  have hl : Secs l := fun t ht => h t (List.mem_cons_of_mem _ ht)
  have hi' : i < l.length := by simpa using hi
  have hl' : Secs (l.set i y) := fun t ht => by
   rcases List.mem_or_eq_of_mem_set ht with q | q
   ·exact hl t q
   ·rw [q]; exact hy
  rw [List.set_cons_succ, zGt hs hl', xall_set l i y hl hy hi', zGt hs hl, List.getElem_cons_succ, zIf]
def layG (w : Nat) : Nat → List (List UInt8) → List (List UInt8)
 | 0, _ => []
 | k + 1, ds => if ds = [] then [] else (xall (ds.take (w - 1)) :: ds.take (w - 1)) ++ layG w k (ds.drop (w - 1))
def layL (w : Nat) (ds : List (List UInt8)) : List (List UInt8) := layG w ds.length ds
theorem layG_nil (w k : Nat) : layG w k [] = [] := by cases k <;> simp [layG]
theorem layG_secs (w : Nat) : ∀ (k : Nat) (ds : List (List UInt8)), Secs ds → Secs (layG w k ds)
 | 0, _, _ => fun s hs => by simp [layG] at hs
 | k + 1, ds, h => fun s hs => by
  rw [layG] at hs
  split at hs
  ·cases hs
  ·rcases List.mem_append.1 hs with hs | hs
   ·rcases List.mem_cons.1 hs with rfl | hs
    ·exact zEy (h.take _)
    ·exact h.take _ s hs
   ·exact layG_secs w k _ (h.drop _) s hs
theorem layG_row {w : Nat} (hw : 2 ≤ w) : ∀ (k : Nat) (ds : List (List UInt8)), Secs ds → ds.length ≤ k → ∀ r, xall (((layG w k ds).drop (r * w)).take w) = z128
 | 0, ds, _, _, r => by simp [layG, xall]
 | k + 1, ds, h, hk, r => by
  rw [layG]
  split
  ·simp [xall]
  ·have hrow : xall (xall (ds.take (w - 1)) :: ds.take (w - 1)) = z128 := by
    rw [zGt (zEy (h.take _)) (h.take _), xr_self (zEy (h.take _))]
   by_cases hl : w - 1 ≤ ds.length
   ·have hlen : (xall (ds.take (w - 1)) :: ds.take (w - 1)).length = w := by rw [List.length_cons, List.length_take]; omega
    cases r with
    | zero => rw [Nat.zero_mul, List.drop_zero, List.take_left' hlen]; exact hrow
    | succ r =>
     rw [Nat.succ_mul, Nat.add_comm, ← List.drop_drop, List.drop_left' hlen]
     exact layG_row hw k _ (h.drop _) (by rw [List.length_drop]; omega) r
   ·have hd : ds.drop (w - 1) = [] := List.drop_of_length_le oZ
    rw [hd, layG_nil, List.append_nil]
    have hlen : (xall (ds.take (w - 1)) :: ds.take (w - 1)).length ≤ w := by rw [List.length_cons, List.length_take]; omega
    cases r with
    | zero => rw [Nat.zero_mul, List.drop_zero, List.take_of_length_le hlen]; exact hrow
    | succ r =>
     rw [List.drop_of_length_le (by rw [Nat.succ_mul]; omega)]; simp [xall]
theorem layG_len {w : Nat} (hw : 2 ≤ w) : ∀ (k : Nat) (ds : List (List UInt8)), ds.length ≤ k → (layG w k ds).length = ds.length + (ds.length + (w - 2)) / (w - 1)
 | 0, ds, hk => by
  have : ds = [] := List.length_eq_zero_iff.1 oZ
  subst this
  simp only [layG, List.length_nil, Nat.zero_add]
  exact (Nat.div_eq_of_lt oZ).symm
 | k + 1, ds, hk => by
  rw [layG]
  split
  ·rename_i q; subst q
   simp only [List.length_nil, Nat.zero_add]
   exact (Nat.div_eq_of_lt oZ).symm
  ·rename_i q
   have hpos : 0 < ds.length := List.length_pos_iff.2 q
   rw [List.length_append, List.length_cons, List.length_take, layG_len hw k _ (by rw [List.length_drop]; omega), List.length_drop]
   by_cases hl : w - 1 ≤ ds.length
   ·rw [Nat.min_eq_left hl]
    have e : (ds.length + (w - 2)) / (w - 1) = (ds.length - (w - 1) + (w - 2)) / (w - 1) + 1 := by
     rw [show ds.length + (w - 2) = (ds.length - (w - 1) + (w - 2)) + (w - 1) by omega, Nat.add_div_right _ oZ]
    omega
   ·rw [Nat.min_eq_right oZ, show ds.length - (w - 1) = 0 by omega, Nat.zero_add, Nat.div_eq_of_lt (show 0 + (w - 2) < w - 1 by omega)]
    have : (ds.length + (w - 2)) / (w - 1) = 1 := by
     rw [Nat.div_eq_iff oZ]
     constructor <;> omega
    omega
def blkF (w : Nat) : Nat → List (List UInt8) → List UInt8
 | _, [] => []
 | i, s :: l => (if i % w = 0 then [] else s) ++ blkF w (i + 1) l
theorem blkF_app (w : Nat) : ∀ (i : Nat) (a b : List (List UInt8)), blkF w i (a ++ b) = blkF w i a ++ blkF w (i + a.length) b
 | i, [], b => rfl
 | i, s :: a, b => by
  rw [List.cons_append, blkF, blkF, blkF_app w (i + 1) a b, List.append_assoc, List.length_cons, Nat.add_right_comm, ← Nat.add_assoc]
theorem blkF_shift (w : Nat) : ∀ (i : Nat) (l : List (List UInt8)), blkF w (i + w) l = blkF w i l
 | i, [] => rfl
 | i, s :: l => by
  rw [blkF, blkF, Nat.add_mod_right, show i + w + 1 = (i + 1) + w by omega, blkF_shift w (i + 1) l]
theorem blkF_mid (w : Nat) : ∀ (i : Nat) (l : List (List UInt8)), 0 < i % w → i % w + l.length ≤ w → blkF w i l = l.flatten
 | i, [], _, _ => rfl
 | i, s :: l, hi, hl => by
  rw [blkF, if_neg oZ, List.flatten_cons]
  cases l with
  | nil => rfl
  | cons t l =>
   have h1 : i % w + 1 < w := by simp only [List.length_cons] at hl; omega
   have h2 : (i + 1) % w = i % w + 1 := by rw [Nat.add_mod, Nat.mod_eq_of_lt (show 1 < w by omega), Nat.mod_eq_of_lt h1]
   rw [blkF_mid w (i + 1) (t :: l) oZ (by rw [h2]; simp only [List.length_cons] at hl ⊢; omega)]
theorem layG_blk {w : Nat} (hw : 2 ≤ w) : ∀ (k : Nat) (ds : List (List UInt8)), ds.length ≤ k → blkF w 0 (layG w k ds) = ds.flatten
 | 0, ds, hk => by
  have : ds = [] := List.length_eq_zero_iff.1 oZ
  subst this; rfl
 | k + 1, ds, hk => by
  rw [layG]
  split
  ·rename_i q; subst q; rfl
  ·rw [blkF_app, blkF, if_pos (Nat.zero_mod w), List.nil_append, Nat.zero_add]
   have h1 : (1 : Nat) % w = 1 := Nat.mod_eq_of_lt oZ
   rw [blkF_mid w 1 _ oZ (by rw [h1, List.length_take]; omega)]
   by_cases hl : w - 1 ≤ ds.length
   ·have hlen : (xall (ds.take (w - 1)) :: ds.take (w - 1)).length = w := by rw [List.length_cons, List.length_take]; omega
    rw [Nat.zero_add, hlen]
    have := blkF_shift w 0 (layG w k (ds.drop (w - 1)))
    rw [Nat.zero_add] at this
    rw [this, layG_blk hw k _ (by rw [List.length_drop]; omega), ← List.flatten_append, List.take_append_drop]
   ·rw [List.drop_of_length_le oZ, layG_nil, blkF, List.append_nil, List.take_of_length_le oZ]
def rebF (w at_ c : Nat) (S : List (List UInt8)) : List (List UInt8) := (List.range S.length).map fun i => if (at_ + i) % w = c then xr (xall ((S.drop (i / w * w)).take w)) (S.getD i []) else S.getD i []
theorem col_one {w at_ i j : Nat} (hij : i / w = j / w) (h : (at_ + i) % w = (at_ + j) % w) : i = j := by
 have h1 := Nat.div_add_mod i w
 have h2 := Nat.div_add_mod j w
 have h3 : i % w = j % w := by
  rw [Nat.add_mod, Nat.add_mod at_ j] at h
  have hw : 0 < w ∨ w = 0 := by omega
  rcases hw with hw | hw
  ·have a1 := Nat.mod_lt at_ hw
   have a2 := Nat.mod_lt i hw
   have a3 := Nat.mod_lt j hw
   have e : ∀ x, x < 2 * w → x % w = if x < w then x else x - w := fun x hx => by
    split
    ·exact Nat.mod_eq_of_lt (by assumption)
    ·rw [Nat.mod_eq_sub_mod oZ, Nat.mod_eq_of_lt oZ]
   rw [e (at_ % w + i % w) oZ, e (at_ % w + j % w) oZ] at h
   split at h <;> split at h <;> omega
  ·subst hw; simp at *; omega
 rw [hij, h3] at h1; omega
end Go.Sl
namespace Go.Proofs.YtpjidiaekifmbaaGreatDoor
open Go.Sl
set_option maxRecDepth 10000
abbrev rdK (R : Rk) (a : Nat) (b : List UInt8) : Nat × Nat → Option (List UInt8) := rdC R a (zDq b.length).toNat b.length
section
variable {R R' : Rk} {xs : List (Nat × Nat)} {k a : Nat} {b : List UInt8} {chk : List UInt8 → Bool} {all : Bool} {i : Nat} {e : Int}
structure Kept (R : Rk) (xs : List (Nat × Nat)) (a : Nat) (b : List UInt8) (chk : List UInt8 → Bool) (y : Nat × Nat) : Prop where
 mem : y ∈ xs
 rd : rdK R a b y = some b
 ck : chk b = true
 good : ∀ x ∈ xs, ∀ c, rdK R a b x = some c → chk c = true → c = b
theorem rdK_same {x : Nat × Nat} (h : dkOf R' x.2 = dkOf R x.2) : rdK R' a b x = rdK R a b x := by unfold rdK rdC; rw [h]
theorem Kept.after {y : Nat × Nat} (h : Kept R xs a b chk y) (hs : ∀ x ∈ xs, rdK R' a b x = some b ∨ (dkOf R' x.2 = dkOf R x.2)) : Kept R' xs a b chk y := by
 refine ⟨h.mem, ?_, h.ck, fun x hx c hc hk => ?_⟩
 ·rcases hs y h.mem with q | q
  ·exact q
  ·rw [rdK_same q]; exact h.rd
 ·rcases hs x hx with q | q
  ·rw [q] at hc; cases hc; rfl
  ·rw [rdK_same q] at hc; exact h.good x hx c hc hk
theorem flTo_all (hU : Up R xs k) (hall : ∀ x ∈ xs, (dkOf R x.2).failed = false) : ∀ i, i ≤ xs.length →
  (flTo R (lvs xs) i).1.pw = R.pw ∧ ((flTo R (lvs xs) i).1.ds.map Dk.d).Nodup ∧ (flTo R (lvs xs) i).1.ws.length ≤ R.ws.length ∧ (0 < i → (flTo R (lvs xs) i).2 = 0) ∧
   ∀ d, R.has d → (flTo R (lvs xs) i).1.has d ∧ dkOf (flTo R (lvs xs) i).1 d = if d ∈ (xs.take i).map Prod.snd then { dkOf R d with pl := (dkOf R d).now } else dkOf R d
 | 0, _ => ⟨rfl, hU.nd, Nat.le_refl _, fun h => absurd h oZ, fun d hd => ⟨hd, by simp [flTo]⟩⟩
 | i + 1, hi => by
  obtain ⟨h1, h2, h3, h4, h5⟩ := flTo_all hU hall i oZ
  have hil : i < xs.length := by omega
  have hm : xs[i] ∈ xs := List.getElem_mem hil
  rw [flTo_succ (zKs hil)]
  generalize flTo R (lvs xs) i = F at *
  obtain ⟨g1, g2⟩ := h5 _ (hU.has _ hm)
  have hf : (dkOf F.1 xs[i].2).failed = false := by rw [g2]; split <;> exact hall _ hm
  have hE : flE F.1.pw (dkOf F.1 xs[i].2).failed = 0 := by rw [hf, h1]; unfold flE; rw [hU.on.off]; rfl
  have hds : (F.1.flush (dkOf F.1 xs[i].2)).ds = setD F.1.ds xs[i].2 fun y => { y with pl := (dkOf F.1 xs[i].2).now } := by
   show setD F.1.ds _ _ = _
   unfold flP
   rw [if_pos hE, (zCw g1).2]
  have hnow : (dkOf F.1 xs[i].2).now = (dkOf R xs[i].2).now := by rw [g2]; split <;> rfl
  refine ⟨h1, ?_, ?_, fun _ => ?_, fun d hd => ?_⟩
  ·show ((F.1.flush _).ds.map Dk.d).Nodup
   rw [hds]
   exact Eq.mpr (congrArg List.Nodup (setD_ds (g := fun y => { y with pl := (dkOf F.1 xs[i].2).now }) (fun _ => rfl))) h2
  ·show (flW _ _ _ _).length ≤ _
   unfold flW
   rw [if_pos hE]
   exact Nat.le_trans (zIp _ _) h3
  ·show (if (dkOf F.1 xs[i].2).failed then F.2 else 0) = 0
   rw [hf]; rfl
  ·obtain ⟨e1, e2⟩ := h5 d hd
   obtain ⟨f1, f2⟩ := dkOf_setD (R := F.1) (R' := F.1.flush (dkOf F.1 xs[i].2)) (g := fun y => { y with pl := (dkOf F.1 xs[i].2).now }) (fun _ => rfl) hds h2 e1
   refine ⟨f1, ?_⟩
   show dkOf (F.1.flush (dkOf F.1 xs[i].2)) d = _
   rw [f2, e2, hnow, ← List.take_append_getElem hil]
   simp only [List.map_append, List.map_cons, List.map_nil, List.mem_append, List.mem_singleton]
   by_cases q : d = xs[i].2
   ·rw [if_pos q, if_pos (Or.inr q), q]; split <;> rfl
   ·rw [if_neg q]
    by_cases r : d ∈ (xs.take i).map Prod.snd
    ·rw [if_pos r, if_pos (Or.inl r)]
    ·rw [if_neg r, if_neg (fun t => t.elim r q)]
end
end Go.Proofs.YtpjidiaekifmbaaGreatDoor
namespace Go.Sl
theorem zDo (w at_ c : Nat) (S : List (List UInt8)) : (rebF w at_ c S).length = S.length := by simp [rebF]
theorem rebF_at {w at_ c : Nat} {S : List (List UInt8)} {i : Nat} (hi : i < S.length) : (rebF w at_ c S)[i]'(by rw [zDo]; exact hi) = if (at_ + i) % w = c then xr (xall ((S.drop (i / w * w)).take w)) S[i] else S[i] := by
 simp [rebF, List.getD_eq_getElem?_getD, hi]
theorem rebF_secs {w at_ c : Nat} {S : List (List UInt8)} (h : Secs S) : Secs (rebF w at_ c S) := fun s hs => by
 obtain ⟨i, hi, rfl⟩ := List.mem_iff_getElem.1 hs
 have hi' : i < S.length := by rw [zDo] at hi; exact hi
 rw [rebF_at hi']
 have := h _ (List.getElem_mem hi')
 split
 ·exact xr_len (zEy ((h.drop _).take _)) this
 ·exact this
theorem reb_fix {w at_ c : Nat} (hw : 2 ≤ w) {S L : List (List UInt8)} (hL : Secs L) (hS : Secs S) (hrow : ∀ r, xall ((L.drop (r * w)).take w) = z128) (hl : S.length = L.length) (h : ∀ i (h1 : i < S.length) (h2 : i < L.length), (at_ + i) % w ≠ c → S[i] = L[i]) : rebF w at_ c S = L := by
 refine List.ext_getElem (by rw [zDo, hl]) fun i h1 h2 => ?_
 have hi : i < S.length := by rw [hl]; exact h2
 rw [rebF_at hi]
 split
 ·rename_i q
  have hmod : i / w * w + i % w = i := by rw [Nat.mul_comm]; exact Nat.div_add_mod i w
  have hlt : i % w < w := Nat.mod_lt _ oZ
  have hr : (S.drop (i / w * w)).take w = ((L.drop (i / w * w)).take w).set (i % w) S[i] := by
   refine List.ext_getElem (by simp [hl]) fun j j1 j2 => ?_
   rw [List.getElem_take, List.getElem_drop, List.getElem_set]
   have jw : j < w := by rw [List.length_take] at j1; omega
   by_cases hj : i % w = j
   ·rw [if_pos hj]
    congr 1; omega
   ·rw [if_neg hj, List.getElem_take, List.getElem_drop]
    refine h _ _ _ fun q2 => hj ?_
    have hdiv : (i / w * w + j) / w = i / w := by rw [Nat.mul_comm, Nat.mul_add_div oZ, Nat.div_eq_of_lt jw]; omega
    have := col_one (w := w) (at_ := at_) (i := i / w * w + j) (j := i) hdiv (q2.trans q.symm)
    omega
  have hlr : i % w < ((L.drop (i / w * w)).take w).length := by rw [List.length_take, List.length_drop]; omega
  have he : ((L.drop (i / w * w)).take w)[i % w] = L[i] := by
   rw [List.getElem_take, List.getElem_drop]; congr 1
  have hs := hS _ (List.getElem_mem hi)
  have hll := hL _ (List.getElem_mem h2)
  rw [hr, xall_set _ _ _ ((hL.drop _).take _) hs hlr, hrow, he, zKt (xr_len hll hs), zIf, xr_self hs, xr_zero hll]
 ·exact h i hi h2 (by assumption)
end Go.Sl
namespace Go.Proofs.YtpjidiaekifmbaaGreatDoor
open Go.Sl
set_option maxRecDepth 10000
def onX (xs : List (Nat × Nat)) (x : Nat) : Nat × Nat := xs.getD (x % xs.length) (0, 0)
theorem zEg {xs : List (Nat × Nat)} (h : 0 < xs.length) (x : Nat) : onX xs x ∈ xs ∧ xs[x % xs.length]? = some (onX xs x) := by
 have hlt : x % xs.length < xs.length := Nat.mod_lt _ h
 have e : onX xs x = xs[x % xs.length] := by simp [onX, List.getD_eq_getElem?_getD, hlt]
 rw [e]; exact ⟨List.getElem_mem _, List.getElem?_eq_getElem hlt⟩
def secP (R : Rk) (xs : List (Nat × Nat)) (x : Nat) : List UInt8 := secB (dkOf R (onX xs x).2).now (274 + x / xs.length)
theorem secP_len {R : Rk} {xs : List (Nat × Nat)} {k x : Nat} (hU : Up R xs k) (h : 0 < xs.length) (hx : x / xs.length < 32) : (secP R xs x).length = 128 := by
 unfold secP
 exact zCf (by rw [hU.nw _ (zEg h x).1]; omega)
theorem xs_neq {xs : List (Nat × Nat)} (hnd : (xs.map Prod.snd).Nodup) {i j : Nat} (hi : i < xs.length) (hj : j < xs.length) (h : j ≠ i) : xs[j].2 ≠ xs[i].2 := fun q => h (by
 have h1 : (xs.map Prod.snd)[j]'(by simpa using hj) = (xs.map Prod.snd)[i]'(by simpa using hi) := by simpa using q
 exact (List.getElem_inj hnd).1 h1)
theorem onX_eq {xs : List (Nat × Nat)} (hnd : (xs.map Prod.snd).Nodup) (h : 0 < xs.length) {x y : Nat} (he : (onX xs x).2 = (onX xs y).2) : x % xs.length = y % xs.length := by
 have h1 := Nat.mod_lt x h
 have h2 := Nat.mod_lt y h
 apply Classical.byContradiction
 intro q
 have := xs_neq hnd h2 h1 q
 exact this (by simpa [onX, List.getD_eq_getElem?_getD, h1, h2] using he)
theorem write_sec {R : Rk} {xs : List (Nat × Nat)} {k x : Nat} (hU : Up R xs k) (hsh : ∀ y ∈ R.ds, y.now.length = y.pl.length) (hnd : (xs.map Prod.snd).Nodup) (h : 0 < xs.length) {s : Nat} (hs : s = x / xs.length) (hx : s < 32) (hf : (dkOf R (onX xs x).2).failed = false) {b : List UInt8} (hb : b.length = 128) :
  ∀ F, F = zDg R (dkOf R (onX xs x).2) (s : Nat) b → F.2 = 0 ∧ Up F.1 xs (k + 8) ∧ (∀ y ∈ xs, (dkOf F.1 y.2).failed = (dkOf R y.2).failed) ∧ (∀ y, y / xs.length < 32 → secP F.1 xs y = if y = x then b else secP R xs y) := by
 intro F hF
 obtain ⟨hm, _⟩ := zEg h x
 have hd := hU.has _ hm
 obtain ⟨e1, e2⟩ := LaidOn.more (LaidOn.nil hU.on (274 + s) b) hU.nd hsh hd (by simp) hf (at_ := (s : Nat)) oZ (by rw [hb]) (by rw [hb]; decide) (by unfold zIb; rw [hU.size _ hm, hb]; omega)
 rw [List.nil_append] at e2
 rw [← hF] at e1 e2
 have hat : ∀ y ∈ xs, dkOf F.1 y.2 = if y.2 = (onX xs x).2 then { dkOf R y.2 with now := zHd (dkOf R y.2).now (274 + s) b } else dkOf R y.2 := fun y hy => by
  rw [e2.at hU.nd (hU.has y hy)]; simp only [List.mem_singleton]
 have hpn : ∀ y ∈ xs, (zHd (dkOf R y.2).now (274 + s) b) = setS (dkOf R y.2).now (274 + s) b := fun y _ => by unfold zHd setS; rw [hb]
 refine ⟨e1, ⟨e2.on, e2.nodup hU.nd, fun y hy => e2.has (hU.has y hy), fun y hy => ?_, fun y hy => ?_, ?_, ?_⟩, fun y hy => ?_, fun y hy => ?_⟩
 ·rw [hat y hy]; split <;> exact hU.pl y hy
 ·rw [hat y hy]
  split
  ·show (zHd (dkOf R y.2).now (274 + s) b).length = _
   rw [zJa (by rw [hU.nw y hy, hb]; omega)]; exact hU.nw y hy
  ·exact hU.nw y hy
 ·have := e2.ws; have := hU.ws; simp only [List.length_singleton] at *; omega
 ·have := e2.wr; have := hU.wr; simp only [List.length_singleton] at *; omega
 ·rw [hat y hy]; split <;> rfl
 ·obtain ⟨hmy, _⟩ := zEg h y
  unfold secP
  rw [hat _ hmy]
  have hlen := hU.nw _ hmy
  by_cases q : (onX xs y).2 = (onX xs x).2
  ·rw [if_pos q]
   show secB (zHd (dkOf R (onX xs y).2).now (274 + s) b) _ = _
   rw [hpn _ hmy]
   by_cases r : y = x
   ·subst r
    rw [if_pos rfl, ← hs]; exact zIa oZ hb
   ·rw [if_neg r]
    have h1 := onX_eq hnd h q
    have h2 : y / xs.length ≠ s := fun t => r (by
     have d1 := Nat.div_add_mod y xs.length
     have d2 := Nat.div_add_mod x xs.length
     rw [t, h1, hs, d2] at d1; exact d1.symm)
    generalize y / xs.length = z at *
    exact zFj oZ hb oZ
  ·rw [if_neg q, if_neg (fun r => q (by rw [r]))]
end Go.Proofs.YtpjidiaekifmbaaGreatDoor
namespace Go.Sl
section
variable {P : Program} {a : Act} {o : Oper} {n : Nat} {e : List (Nat × Value)} {ds : List Deferred} {x y z : Operand} {w w0 : World} {v : Value} {As Ls Rs : List zAj} {K : Act → World → Prop} {Q : Exit → Act → World → Prop}
structure Me where
 key : Int
 val : Value
 born : Nat
abbrev Me.en (k : IntKind) (m : Me) : MapEntry := { key := .int k m.key, val := m.val, born := m.born }
abbrev mes (k : IntKind) (L : List Me) : Array MapEntry := (L.map (Me.en k)).toArray
theorem find_not {k : IntKind} {q : Int} : ∀ {L : List Me} (i : Nat), (∀ m ∈ L, m.key ≠ q) → Instr.findNow (.int k) (.int k q) (L.map (Me.en k)) i = some none
 | [], i, _ => rfl
 | m :: r, i, h => by
  have h1 := h m (List.mem_cons_self ..)
  have h2 := find_not (k := k) (L := r) (i + 1) fun z hz => h z (List.mem_cons_of_mem _ hz)
  have h3 : Instr.sameNow (.int k) (.int k q) (.int k m.key) = some false := by
   simp [Instr.sameNow, Ne.symm h1]
  simp [Instr.findNow, h3, h2]
theorem find_is {k : IntKind} {m : Me} : ∀ {A B : List Me} (i : Nat), (∀ z ∈ A, z.key ≠ m.key) → Instr.findNow (.int k) (.int k m.key) ((A ++ m :: B).map (Me.en k)) i = some (some (i + A.length, m.val))
 | [], B, i, _ => by
  have h3 : Instr.sameNow (.int k) (.int k m.key) (.int k m.key) = some true := by simp [Instr.sameNow]
  simp [Instr.findNow, h3]
 | z :: A, B, i, h => by
  have h1 := h z (List.mem_cons_self ..)
  have h2 := find_is (k := k) (m := m) (A := A) (B := B) (i + 1) fun u hu => h u (List.mem_cons_of_mem _ hu)
  have h3 : Instr.sameNow (.int k) (.int k m.key) (.int k z.key) = some false := by
   simp [Instr.sameNow, Ne.symm h1]
  rw [List.cons_append, List.map_cons]
  simp only [Instr.findNow, Me.en, h3]
  rw [h2, List.length_cons, Nat.add_assoc, Nat.add_comm 1]
theorem mes_modify (k : IntKind) (A B : List Me) (m : Me) (v : Value) : (mes k (A ++ m :: B)).modify A.length (fun e => { e with key := .int k m.key, val := v }) = mes k (A ++ { m with val := v } :: B) := by
 apply Array.ext
 ·simp
 ·intro i h1 h2
  rw [Array.getElem_modify]
  simp only [mes, List.map_append, List.map_cons, List.getElem_toArray]
  by_cases c : A.length = i
  ·subst c
   rw [if_pos rfl]
   simp [Me.en]
  ·rw [if_neg c, List.getElem_append, List.getElem_append]
   split
   ·rfl
   ·rename_i hc
    simp only [List.length_map] at hc ⊢
    obtain ⟨j, hj⟩ : ∃ j, i - A.length = j + 1 := ⟨i - A.length - 1, by omega⟩
    simp only [hj, List.getElem_cons_succ]
theorem wp_mapMod (E : Fr a n e ds) (S : St w0 As w Ls) {t kt et : TypeId} {r clock : Nat} {k : IntKind} {A B : List Me} {m : Me} (ho : o.op = .mapUpdate t x y z) (hd : o.dst = none) (hx : ev e x = some (.map (some r))) (hy : ev e y = some (.int k m.key)) (hz : ev e z = some v)
  (ht : P.underlying t = some (.map kt et)) (hk : P.underlying kt = some (.int k)) (hp : Ls.Perm ([(r, .map (mes k (A ++ m :: B)) clock)] :: Rs)) (hA : ∀ z ∈ A, z.key ≠ m.key)
  (kk : ∀ a' w', Fr a' n e ds → St w0 As w' ([(r, .map (mes k (A ++ { m with val := v } :: B)) clock)] :: Rs) → K a' w') : o.wp P a w K Q := by
 have hb := S.get hp
 have hf := find_is (k := k) (m := m) (A := A) (B := B) 0 hA
 rw [Nat.zero_add] at hf
 have hj : (mes k (A ++ m :: B))[A.length]? = some (Me.en k m) := by simp
 have hmd := mes_modify k A B m v
 have hf : Instr.findNow (.int k) (.int k m.key) (mes k (A ++ m :: B)).toList 0 = some (some (A.length, m.val)) := hf
 rw [← hmd] at kk
 clear hmd
 generalize mes k (A ++ m :: B) = es at *
 refine zLb.wp (w' := { w with heap := w.heap.setIfInBounds r (.map (es.modify A.length (fun e => { e with key := .int k m.key, val := v })) clock) }) ?_ (by rw [hd]; exact kk _ _ (E.put0 _) (zHg S hp))
 unfold zLb
 have hsame : (Instr.keyThatStays (.int k m.key) (.int k m.key)).run P w = .ok (.int k m.key) w := Go.MapKept.run_keyThatStays (d := .int k) (by simp [Go.MapKept.IsKey])
 simp [execOp, ho, E.eval hx, E.eval hy, E.eval hz, Instr.mapUpdate, run_underlying ht, Go.MapKept.run_getObj_map hb, zFk hk, Go.MapKept.run_findKey hk hf, hj, hsame, Go.MapKept.run_setObj_map _ hb]
end
end Go.Sl
namespace Go.Sl
def zFf (w : Nat) (n : Int) : Int := zDq n + (zDq n + (w - 2)) / (w - 1)
theorem zEz {w : Nat} (hw : 3 ≤ w ∧ w ≤ 5) (n : Int) : 0 ≤ zFf w n ∧ zFf w n ≤ 12 ∧ (0 < zFf w n ↔ 0 < zDq n) := by
 have h := zHa n
 unfold zFf
 generalize zDq n = k at *
 obtain ⟨h1, h2, -⟩ := h
 rcases (show w = 3 ∨ w = 4 ∨ w = 5 by omega) with rfl | rfl | rfl
 all_goals (refine ⟨?_, ?_, ?_⟩ <;> omega)
def zIh (w : Nat) (z at_ n : Int) : Prop := 0 < zFf w n ∧ 0 ≤ at_ ∧ at_ ≤ w * z ∧ zFf w n ≤ w * z - at_
instance (w : Nat) (z at_ n : Int) : Decidable (zIh w z at_ n) := by unfold zIh; infer_instance
theorem zCz {P : Program} {o : Oper} {a : Act} {w : World} {n : Nat} {e : List (Nat × Value)} {ds : List Deferred} {x : Operand} (E : Fr a n e ds) {t kt et : TypeId} {r clock : Nat} {es : Array MapEntry} (ho : o.op = .call { callee := .builtin .len, args := #[x], argTypes := #[t] }) (hx : ev e x = some (.map (some r)))
  (ht : P.underlying t = some (.map kt et)) (hb : w.heap[r]? = some (.map es clock)) : zAu P o a w (.int .i64 es.size) w := by
 simp [zAu, execOp, ho, resolve, invoke, builtin, E.eval hx, Builtin.len_, run_underlying ht, goInt, Go.MapKept.run_getObj_map hb]
theorem zIi (x n : Nat) : ((x : Int).tmod (n : Int)) = ((x % n : Nat) : Int) := rfl
theorem zJq (x n : Nat) : ((x : Int).tdiv (n : Int)) = ((x / n : Nat) : Int) := rfl
end Go.Sl
namespace Go.Proofs.YtpjidiaekifmbaaGreatDoor
open Go.Sl
set_option maxRecDepth 10000
abbrev ptcl (vl vk : Value) (sz : Int) : Obj := cel [vl, vk, .int .i64 sz] 91
theorem pup_ret (pa pb : Nat) (ha : pa ≤ 1000000) (hb : 1 ≤ pb ∧ pb ≤ 1000000) (w0 : World) : Ret Tryz.prog 38 #[.int .i64 pa, .int .i64 pb] w0 fun u w' => u = .int .i64 ((pa + pb - 1) / pb : Nat) ∧ Trs w0 w' [] [] := by
 have S := St.begin (zDz w0)
 refine zBx 11 Tryz.func38 rfl rfl dZ ?_; intro a E
 refine wp_seq_k ?_; intro K hK
 refine zAa ?_
 refine zd E ?_; clear E a; intro a E
 refine wpList_nil ?_
 refine zAb hK ?_; clear hK K
 refine wp_seq_k ?_; intro K hK
 refine zAa ?_
 iterate 2 (refine zd E ?_; clear E a; intro a E)
 refine zp E (zAy E rfl rfl rfl (w_in oZ)) ?_; clear E a; intro a E
 refine zp E (zCo E rfl rfl rfl (w_in oZ)) ?_; clear E a; intro a E
 refine zd E ?_; clear E a; intro a E
 refine zp E (zGg E rfl rfl rfl (by first | decide | omega) (show IntKind.i64.wrap (((pa : Int) + pb - 1).tdiv pb) = (((pa + pb - 1) / pb : Nat) : Int) by
  rw [show (pa : Int) + pb - 1 = ((pa + pb - 1 : Nat) : Int) by omega, zJq]
  have := Nat.div_le_self (pa + pb - 1) pb
  generalize (pa + pb - 1) / pb = y at *
  exact w_in oZ)) ?_; clear E a; intro a E
 refine zd E ?_; clear E a; intro a E
 refine wpList_nil ?_
 refine zAb hK ?_; clear hK K
 refine wp_ret ?_
 refine ret1 E rfl rfl ?_
 exact ⟨_, rfl, rfl, (S.only (Bs := []) sZ).tr⟩
section
variable (t : Nat) (ad : Option Addr) (wd c : Nat) (vk : Value) (z : Int) (As : List zAj) (hTA : [(t, ptcl (.slice ad wd c) vk z)] ∈ As)
include hTA
theorem zCt (w0 : World) (H : Hp w0 As) : Ret Tryz.prog 36 #[ptr t] w0 fun u w' => u = .int .i64 wd ∧ Trs w0 w' As As := by
 have S := St.begin H
 refine zCh 8 Tryz.func36 rfl rfl dZ ?_; intro a E
 refine wp_seq_k ?_; intro K hK
 refine zAa ?_
 refine zd E ?_; clear E a; intro a E
 refine wpList_nil ?_
 refine zAb hK ?_; clear hK K
 refine wp_seq_k ?_; intro K hK
 refine zAa ?_
 iterate 2 (refine zd E ?_; clear E a; intro a E)
 refine zp E (by first | exact zAc (q := 0) E rfl rfl rfl | exact zAd (q := 0) E rfl rfl rfl) ?_; clear E a; intro a E
 refine zp E (zAo E rfl rfl rfl (zBv (j := 0) (S.stab.at hTA _ (List.mem_singleton.2 rfl)) rfl)) ?_; clear E a; intro a E
 iterate 2 (refine zd E ?_; clear E a; intro a E)
 refine wpList_nil ?_
 refine zAb hK ?_; clear hK K
 refine wp_ret ?_
 refine ret1 E rfl rfl ?_
 exact ⟨_, rfl, rfl, S.tr⟩
variable (hw : 3 ≤ wd ∧ wd ≤ 5) (hz : 0 ≤ z ∧ z ≤ 8192)
include hw
theorem zGu (n : Int) (w0 : World) (H : Hp w0 As) : Ret Tryz.prog 10 #[ptr t, .int .i64 n] w0 fun u w' => u = .int .i64 (zFf wd n) ∧ Trs w0 w' As As := by
 have S := St.begin H
 have h0 : n < 1 ∨ 1024 < n → zFf wd n = 0 := fun h => by
  have : zDq n = 0 := by unfold zDq; rw [if_pos h]
  unfold zFf; rw [this]
  rcases (show wd = 3 ∨ wd = 4 ∨ wd = 5 by omega) with rfl | rfl | rfl <;> rfl
 refine zBx 21 Tryz.func10 rfl rfl dZ ?_; intro a E
 refine wp_seq_k ?_; intro K hK
 refine zAa ?_
 refine zd E ?_; clear E a; intro a E
 refine wpList_nil ?_
 refine zAb hK ?_; clear hK K
 iterate 2 (refine wp_seq_k ?_; intro K hK)
 refine zAa ?_
 iterate 3 (refine zd E ?_; clear E a; intro a E)
 refine zAr E (t := 8) rfl (fun hb8 => ?_) (fun hb8 => ?_)
 ·have hb8n := hb8; replace hb8n := Nrm.nrm hb8n
  iterate 2 (refine zn E hb8 ?_; clear E a; intro a E)
  refine zp E (zAi E rfl rfl hb8 rfl) ?_; clear E a; intro a E
  refine wpList_nil ?_
  refine zAb hK ?_; clear hK K
  refine zCk E rfl rfl ?_
  refine wp_seq_k ?_; intro K hK
  refine zAa ?_
  refine zd E ?_; clear E a; intro a E
  refine wpList_nil ?_
  refine zAb hK ?_; clear hK K
  refine wp_ret ?_
  refine zBc ?_; clear hK K
  refine ret1 E rfl rfl ?_
  exact ⟨_, rfl, by rw [h0 oZ], S.tr⟩
 ·have hb8n := hb8; replace hb8n := Nrm.nrm hb8n
  iterate 2 (refine zyd E hb8 ?_; clear E a; intro a E)
  refine zp E (zAk E rfl rfl hb8 rfl) ?_; clear E a; intro a E
  refine wpList_nil ?_
  refine zAb hK ?_; clear hK K
  refine zAs E rfl (fun hb => ?_) (fun hb => ?_)
  ·replace hb := Nrm.nrm hb
   refine wp_seq_k ?_; intro K hK
   refine zAa ?_
   refine zd E ?_; clear E a; intro a E
   refine wpList_nil ?_
   refine zAb hK ?_; clear hK K
   refine wp_ret ?_
   refine zBc ?_; clear hK K
   refine ret1 E rfl rfl ?_
   exact ⟨_, rfl, by rw [h0 oZ], S.tr⟩
  ·replace hb := Nrm.nrm hb
   refine wp_skip ?_
   refine zAb hK ?_; clear hK K
   refine wp_seq_k ?_; intro K hK
   obtain ⟨m, rfl⟩ : ∃ m : Nat, n = m := ⟨n.toNat, by omega⟩
   refine zAa ?_
   refine zd E ?_; clear E a; intro a E
   refine zAg E rfl rfl dZ rfl Tryz.func38 rfl yZ rfl (pup_ret m 128 oZ oZ _) ?_
   rintro v13 w ⟨rfl, hT⟩; clear E a; intro a E
   have S := S.quiet hT
   refine zd E ?_; clear E a; intro a E
   refine wpList_nil ?_
   refine zAb hK ?_; clear hK K
   refine wp_seq_k ?_; intro K hK
   obtain ⟨k, hk⟩ : ∃ k, k = (m + 128 - 1) / 128 := ⟨_, rfl⟩
   rw [← hk] at E
   have hkm : zDq (m : Int) = (k : Int) := by unfold zDq; rw [if_neg oZ, hk]; omega
   have hk8 : k ≤ 8 := by omega
   refine zAa ?_
   iterate 3 (refine zd E ?_; clear E a; intro a E)
   refine zAg E rfl rfl dZ rfl Tryz.func36 rfl yZ rfl (zCt t ad wd c vk z As hTA _ S.hp) ?_
   rintro v17 w ⟨rfl, hT⟩; clear E a; intro a E
   have S := S.all hT
   refine zp E (zCo E rfl rfl rfl (show IntKind.i64.wrap ((wd : Int) - 1) = ((wd - 1 : Nat) : Int) by rw [show (wd : Int) - 1 = ((wd - 1 : Nat) : Int) by omega]; exact w_in oZ)) ?_; clear E a; intro a E
   refine zAg E rfl rfl dZ rfl Tryz.func38 rfl yZ rfl (pup_ret k (wd - 1) oZ oZ _) ?_
   rintro v19 w ⟨rfl, hT⟩; clear E a; intro a E
   have S := S.quiet hT
   refine zp E (zAy E rfl rfl rfl (w_in (by have := Nat.div_le_self (k + (wd - 1) - 1) (wd - 1); generalize (k + (wd - 1) - 1) / (wd - 1) = y at *; omega))) ?_; clear E a; intro a E
   refine zd E ?_; clear E a; intro a E
   refine wpList_nil ?_
   refine zAb hK ?_; clear hK K
   refine wp_ret ?_
   refine ret1 E rfl rfl ?_
   exact ⟨_, rfl, by unfold zFf; rw [hkm]; congr 1; rcases (show wd = 3 ∨ wd = 4 ∨ wd = 5 by omega) with rfl | rfl | rfl <;> omega, S.tr⟩
include hz
theorem zIj (w0 : World) (H : Hp w0 As) : Ret Tryz.prog 9 #[ptr t] w0 fun u w' => u = .int .i64 (wd * z) ∧ Trs w0 w' As As := by
 have S := St.begin H
 have hb : 0 ≤ (wd : Int) * z ∧ (wd : Int) * z ≤ 40960 := by
  rcases (show wd = 3 ∨ wd = 4 ∨ wd = 5 by omega) with rfl | rfl | rfl <;> omega
 refine zCh 10 Tryz.func9 rfl rfl dZ ?_; intro a E
 refine wp_seq_k ?_; intro K hK
 refine zAa ?_
 refine zd E ?_; clear E a; intro a E
 refine wpList_nil ?_
 refine zAb hK ?_; clear hK K
 refine wp_seq_k ?_; intro K hK
 refine zAw S (.ofL [(0, 0), (2, 0), (3, 0), (4, 0), (5, 0), (1, 1), (6, 0), (7, 0)]) yZ yZ ?_
 clear S; intro w S
 iterate 3 (refine zmd E ?_; clear E a; intro a E)
 refine zm E rfl (fun w h => by first | exact zAc (q := 2) E rfl rfl rfl | exact zAd (q := 2) E rfl rfl rfl) ?_; clear E a; intro a E
 refine zm E rfl (fun w h => zAo E rfl rfl rfl (zBv (j := 2) (h.at hTA _ (List.mem_singleton.2 rfl)) rfl)) ?_; clear E a; intro a E
 refine zBo E rfl rfl rfl dZ rfl Tryz.func36 rfl yZ rfl (zCt t ad wd c vk z As hTA _ S.hp) ?_
 rintro v4 w ⟨rfl, hT⟩; clear E a; intro a E
 have S := S.all hT
 refine ⟨S.stab.sub (by first | (simp; done) | (simp +contextual; done) | (simp [*]; done)), ?_⟩
 refine zm E rfl (fun w h => zCx E rfl rfl rfl (w_in oZ)) ?_; clear E a; intro a E
 refine zmd E ?_; clear E a; intro a E
 refine zBd ?_
 refine zAb hK ?_; clear hK K
 refine wp_ret ?_
 refine ret1 E rfl rfl ?_
 exact ⟨_, rfl, rfl, S.tr⟩
theorem zKu (at_ n : Int) (ha : -9223372036854775808 ≤ at_ ∧ at_ ≤ 9223372036854775807) (w0 : World) (H : Hp w0 As) :
  Ret Tryz.prog 33 #[ptr t, .int .i64 at_, .int .i64 n] w0 fun u w' => u = .bool (decide (zIh wd z at_ n)) ∧ Trs w0 w' As As := by
 have S := St.begin H
 have hb : 0 ≤ (wd : Int) * z ∧ (wd : Int) * z ≤ 40960 := by
  rcases (show wd = 3 ∨ wd = 4 ∨ wd = 5 by omega) with rfl | rfl | rfl <;> omega
 obtain ⟨q, hq⟩ : ∃ q, q = zFf wd n := ⟨_, rfl⟩
 obtain ⟨y, hy⟩ : ∃ y, y = (wd : Int) * z := ⟨_, rfl⟩
 have hqb := zEz hw n
 rw [← hq] at hqb
 rw [← hy] at hb
 have hh : ∀ b : Bool, (b = true ↔ (0 < q ∧ 0 ≤ at_ ∧ at_ ≤ y ∧ q ≤ y - at_)) → b = decide (zIh wd z at_ n) := fun b h => by
  rw [Bool.eq_iff_iff, decide_eq_true_eq, h]; unfold zIh; rw [← hq, ← hy]
 refine zDi 31 Tryz.func33 rfl rfl dZ ?_; intro a E
 refine wp_seq_k ?_; intro K hK
 refine zAa ?_
 refine zd E ?_; clear E a; intro a E
 refine wpList_nil ?_
 refine zAb hK ?_; clear hK K
 refine wp_seq_k ?_; intro K hK
 refine zAa ?_
 iterate 2 (refine zd E ?_; clear E a; intro a E)
 refine zAg E rfl rfl dZ rfl Tryz.func10 rfl yZ rfl (zGu t ad wd c vk z As hTA hw n _ S.hp) ?_
 rintro v10 w ⟨rfl, hT⟩; clear E a; intro a E
 have S := S.all hT; rw [← hq] at E
 refine zd E ?_; clear E a; intro a E
 refine wpList_nil ?_
 refine zAb hK ?_; clear hK K
 refine wp_seq_k ?_; intro K hK
 refine zAa ?_
 iterate 3 (refine zd E ?_; clear E a; intro a E)
 refine zAr E (t := 13) rfl (fun hb13 => ?_) (fun hb13 => ?_)
 ·have hb13n := hb13; replace hb13n := Nrm.nrm hb13n
  iterate 2 (refine zyd E hb13 ?_; clear E a; intro a E)
  refine zp E (zAi E rfl rfl hb13 rfl) ?_; clear E a; intro a E
  refine zd E ?_; clear E a; intro a E
  refine zAr E (t := 17) rfl (fun hb17 => ?_) (fun hb17 => ?_)
  ·have hb17n := hb17; replace hb17n := Nrm.nrm hb17n
   iterate 2 (refine zyd E hb17 ?_; clear E a; intro a E)
   refine zBy E rfl rfl rfl rfl hb17 ?_; refine zCe E rfl dZ rfl Tryz.func9 rfl yZ rfl (zIj t ad wd c vk z As hTA hw hz _ S.hp) ?_
   rintro v20 w ⟨rfl, hT⟩; clear E a; intro a E
   have S := S.all hT; rw [← hy] at E
   refine zyd E hb17 ?_; clear E a; intro a E
   refine zp E (zAi E rfl rfl hb17 rfl) ?_; clear E a; intro a E
   refine zd E ?_; clear E a; intro a E
   refine zAr E (t := 23) rfl (fun hb23 => ?_) (fun hb23 => ?_)
   ·have hb23n := hb23; replace hb23n := Nrm.nrm hb23n
    iterate 2 (refine zyd E hb23 ?_; clear E a; intro a E)
    refine zBy E rfl rfl rfl rfl hb23 ?_; refine zCe E rfl dZ rfl Tryz.func9 rfl yZ rfl (zIj t ad wd c vk z As hTA hw hz _ S.hp) ?_
    rintro v26 w ⟨rfl, hT⟩; clear E a; intro a E
    have S := S.all hT; rw [← hy] at E
    refine zyd E hb23 ?_; clear E a; intro a E
    refine zy E hb23 (zCo E rfl rfl rfl (w_in oZ)) ?_; clear E a; intro a E
    refine zyd E hb23 ?_; clear E a; intro a E
    refine zp E (zAi E rfl rfl hb23 rfl) ?_; clear E a; intro a E
    refine zd E ?_; clear E a; intro a E
    refine wpList_nil ?_
    refine zAb hK ?_; clear hK K
    refine wp_ret ?_
    refine ret1 E rfl rfl ?_
    refine ⟨_, rfl, congrArg _ (hh _ ?_), S.tr⟩
    first | (simp; omega) | (simp only [decide_eq_true_eq]; omega) | (simp only [Bool.false_eq_true, false_iff]; omega)
   ·have hb23n := hb23; replace hb23n := Nrm.nrm hb23n
    iterate 6 (refine zn E hb23 ?_; clear E a; intro a E)
    refine zp E (zAk E rfl rfl hb23 rfl) ?_; clear E a; intro a E
    refine zd E ?_; clear E a; intro a E
    refine wpList_nil ?_
    refine zAb hK ?_; clear hK K
    refine wp_ret ?_
    refine ret1 E rfl rfl ?_
    refine ⟨_, rfl, congrArg _ (hh _ ?_), S.tr⟩
    first | (simp; omega) | (simp only [decide_eq_true_eq]; omega) | (simp only [Bool.false_eq_true, false_iff]; omega)
  ·have hb17n := hb17; replace hb17n := Nrm.nrm hb17n
   iterate 4 (refine zn E hb17 ?_; clear E a; intro a E)
   refine zp E (zAk E rfl rfl hb17 rfl) ?_; clear E a; intro a E
   refine zd E ?_; clear E a; intro a E
   iterate 6 (refine zn E rfl ?_; clear E a; intro a E)
   refine zp E (zAk E rfl rfl rfl rfl) ?_; clear E a; intro a E
   refine zd E ?_; clear E a; intro a E
   refine wpList_nil ?_
   refine zAb hK ?_; clear hK K
   refine wp_ret ?_
   refine ret1 E rfl rfl ?_
   refine ⟨_, rfl, congrArg _ (hh _ ?_), S.tr⟩
   first | (simp; omega) | (simp only [decide_eq_true_eq]; omega) | (simp only [Bool.false_eq_true, false_iff]; omega)
 ·have hb13n := hb13; replace hb13n := Nrm.nrm hb13n
  iterate 2 (refine zn E hb13 ?_; clear E a; intro a E)
  refine zp E (zAk E rfl rfl hb13 rfl) ?_; clear E a; intro a E
  refine zd E ?_; clear E a; intro a E
  iterate 4 (refine zn E rfl ?_; clear E a; intro a E)
  refine zp E (zAk E rfl rfl rfl rfl) ?_; clear E a; intro a E
  refine zd E ?_; clear E a; intro a E
  iterate 6 (refine zn E rfl ?_; clear E a; intro a E)
  refine zp E (zAk E rfl rfl rfl rfl) ?_; clear E a; intro a E
  refine zd E ?_; clear E a; intro a E
  refine wpList_nil ?_
  refine zAb hK ?_; clear hK K
  refine wp_ret ?_
  refine ret1 E rfl rfl ?_
  refine ⟨_, rfl, congrArg _ (hh _ ?_), S.tr⟩
  first | (simp; omega) | (simp only [decide_eq_true_eq]; omega) | (simp only [Bool.false_eq_true, false_iff]; omega)
end
end Go.Proofs.YtpjidiaekifmbaaGreatDoor
namespace Go.Sl
theorem xorB_xr : ∀ {a b : List UInt8}, a.length = b.length → xorB a b = xr a b
 | [], [], _ => rfl
 | x :: a, y :: b, h => by
  have ih := xorB_xr (a := a) (b := b) (by simpa using h)
  simp only [xorB, xr, List.zipWith_cons_cons] at ih ⊢
  rw [ih]
 | [], _ :: _, h => by simp at h
 | _ :: _, [], h => by simp at h
def SecV (D : zAj) (v : Value) (s : List UInt8) : Prop := s.length = 128 ∧ Rd D 1 v 128 (byt s) ∧ ∃ ad c, v = .slice ad 128 c ∧ 128 ≤ c
theorem SecV.sub {D E : zAj} {v : Value} {s : List UInt8} (h : SecV D v s) (hs : ∀ x ∈ D, x ∈ E) : SecV E v s := ⟨h.1, h.2.1.sub hs, h.2.2⟩
theorem SecV.rd {D : zAj} {v : Value} {s : List UInt8} (h : SecV D v s) : Rd D 1 v s.length (byt s) := by rw [h.1]; exact h.2.1
theorem SecV.addr {D : zAj} {v : Value} {s : List UInt8} (h : SecV D v s) : ∃ g off c, v = .slice (some ⟨g, off, none⟩) 128 c ∧ 128 ≤ c := by
 obtain ⟨h1, h2, ad, c, rfl, hc⟩ := h
 obtain ⟨g, off, rfl⟩ := h2.addr oZ
 exact ⟨g, off, c, rfl, hc⟩
def zCv (D : zAj) (vs : List Value) (ss : List (List UInt8)) : Prop := All2 (SecV D) vs ss
section
variable {D E : zAj} {vs us : List Value} {ss ts : List (List UInt8)}
theorem zCv.secs (h : zCv D vs ss) : Secs ss := fun s hs => by
 obtain ⟨i, hi, rfl⟩ := List.mem_iff_getElem.1 hs
 obtain ⟨v, b, h1, h2, h3⟩ := All2.get h (i := i) (by rw [h.1]; exact hi)
 rw [List.getElem?_eq_getElem hi] at h2
 cases h2; exact h3.1
theorem zCv.sub (h : zCv D vs ss) (hs : ∀ x ∈ D, x ∈ E) : zCv E vs ss := h.imp fun _ _ q => q.sub hs
theorem zCv.at (h : zCv D vs ss) {i : Nat} (hi : i < ss.length) : ∃ v, vs[i]? = some v ∧ SecV D v ss[i] := by
 obtain ⟨v, b, h1, h2, h3⟩ := All2.get h (i := i) (by rw [h.1]; exact hi)
 rw [List.getElem?_eq_getElem hi] at h2
 cases h2; exact ⟨v, h1, h3⟩
theorem zCv.one (h : zCv D vs ss) : ∀ u ∈ vs, u.oneCell' = true := fun u hu => by
 obtain ⟨i, hi, rfl⟩ := List.mem_iff_getElem.1 hu
 obtain ⟨b, h1, h2⟩ := All2.at h (List.getElem?_eq_getElem hi)
 obtain ⟨_, _, ad, c, e, _⟩ := h2
 rw [e]; rfl
theorem zCv.app (h : zCv D vs ss) (k : zCv D us ts) : zCv D (vs ++ us) (ss ++ ts) := by
 refine ⟨by rw [List.length_append, List.length_append, h.1, k.1], fun i a b h1 h2 => ?_⟩
 by_cases hi : i < vs.length
 ·rw [List.getElem?_append_left hi] at h1
  rw [List.getElem?_append_left (by rw [← h.1]; exact hi)] at h2
  exact h.2 i a b h1 h2
 ·rw [List.getElem?_append_right oZ] at h1
  rw [List.getElem?_append_right (by rw [← h.1]; omega), ← h.1] at h2
  exact k.2 _ a b h1 h2
theorem zCv.take (h : zCv D vs ss) (n : Nat) : zCv D (vs.take n) (ss.take n) := by
 refine ⟨by rw [List.length_take, List.length_take, h.1], fun i a b h1 h2 => ?_⟩
 have hi : i < n := by
  have := (List.getElem?_eq_some_iff.1 h1).1
  rw [List.length_take] at this; omega
 rw [List.getElem?_take_of_lt hi] at h1 h2
 exact h.2 i a b h1 h2
theorem zCv.drop (h : zCv D vs ss) (n : Nat) : zCv D (vs.drop n) (ss.drop n) := by
 refine ⟨by rw [List.length_drop, List.length_drop, h.1], fun i a b h1 h2 => ?_⟩
 rw [List.getElem?_drop] at h1 h2
 exact h.2 _ a b h1 h2
end
end Go.Sl
namespace Go.Proofs.YtpjidiaekifmbaaGreatDoor
open Go.Sl
set_option maxRecDepth 10000
theorem pxor_ret (v : Value) (V D : zAj) (vs : List Value) (ss : List (List UInt8)) (hV : Rd V 1 v vs.length vs) (hD : zCv D vs ss) (hl : ss.length ≤ 1000) (As : List zAj) (hVA : V ∈ As) (hDA : D ∈ As) (w0 : World) (H : Hp w0 As) :
  Ret Tryz.prog 75 #[v] w0 fun u w' => ∃ g, u = .slice (some ⟨g, 0, none⟩) 128 128 ∧ Trs w0 w' As ([(g, cel (byt (xall ss)) 5)] :: As) := by
 have S := St.begin H
 have hvl : vs.length = ss.length := hD.1
 obtain ⟨ad, c, rfl⟩ := hV.slice
 have hss := hD.secs
 have hz : List.replicate 128 (.int .u8 0) = byt z128 := (zFd 128).symm
 refine zCh 32 Tryz.func75 rfl rfl dZ ?_; intro a E
 refine wp_seq_k ?_; intro K hK
 refine zAa ?_
 refine zd E ?_; clear E a; intro a E
 refine wpList_nil ?_
 refine zAb hK ?_; clear hK K
 refine wp_seq_k ?_; intro K hK
 refine zAa ?_
 refine zAf rfl (zCn (by' := 1) E S rfl rfl dZ rfl rfl rfl rfl rfl rfl rfl rfl rfl rfl rfl (k := 128) (mkb oZ) (by simp only [maxLen]; omega) ?_); clear E S a; intro a w g8 E S
 rw [hz] at S
 refine zd E ?_; clear E a; intro a E
 refine wpList_nil ?_
 refine zAb hK ?_; clear hK K
 iterate 2 (refine wp_seq_k ?_; intro K hK)
 refine zAa ?_
 iterate 3 (refine zd E ?_; clear E a; intro a E)
 refine wpList_nil ?_
 refine zAb hK ?_; clear hK K
 refine wp_block ?_
 refine wp_loop_ghost (fun (m : Nat) (a : Act) (w' : World) => ∃ (i : Nat), m = ss.length - i ∧ i ≤ ss.length ∧ St w0 As w' ([(g8, cel (byt (xall (ss.take i))) 5)] :: As) ∧ Fr a 32 [(3, .slice (some ⟨g8, 0, none⟩) 128 128), (9, .slice ad vs.length c), (10, .int .i64 vs.length), (11, .int .i64 i)]) (ss.length - 0) ?_ ?_
 ·exact ⟨0, rfl, by omega, S, E.keep (kE4 rfl rfl rfl rfl)⟩
 clear E; clear a; (try clear S); rintro m a w ⟨i, rfl, hi, S, E⟩
 refine wp_seq_k ?_; intro K hK
 refine zAa ?_
 refine zd E ?_; clear E a; intro a E
 refine wpList_nil ?_
 refine zAb hK ?_; clear hK K
 refine wp_seq_k ?_; intro K hK
 refine zAs E rfl (fun hb => ?_) (fun hb => ?_)
 ·replace hb := Nrm.nrm hb
  refine wp_skip ?_
  refine zAb hK ?_; clear hK K
  refine wp_seq_k ?_; intro K hK
  refine wp_block ?_
  refine wp_seq_k ?_; intro K hK
  have hil : i < ss.length := by omega
  obtain ⟨vi, hvi, hsv⟩ := hD.at hil
  obtain ⟨g, off, rfl⟩ := hV.addr oZ
  obtain ⟨gs, os, cs, rfl, hcs⟩ := hsv.addr
  obtain ⟨sx, hsx⟩ : ∃ sx, sx = ss[i] := ⟨_, rfl⟩
  rw [← hsx] at hsv
  have hsl := hsv.1
  obtain ⟨X, hX⟩ : ∃ X, X = xall (ss.take i) := ⟨_, rfl⟩
  have hXl : X.length = 128 := by rw [hX]; exact zEy (hss.take i)
  rw [← hX] at S
  have hnext : xall (ss.take (i + 1)) = xorB X sx := by rw [← List.take_append_getElem hil, xall_snoc, ← hX, ← hsx, xorB_xr oZ]
  refine zAa ?_
  refine zp E (by first | exact zAp E rfl rfl rfl rfl rfl rfl oZ | exact zAz E rfl rfl rfl rfl rfl rfl oZ | exact zAm E rfl rfl rfl rfl rfl rfl oZ) ?_; clear E a; intro a E
  refine zp E (zAo E rfl rfl rfl (hV.cells (S.stab.at mZ) rfl i _ hvi)) ?_; clear E a; intro a E
  refine zd E ?_; clear E a; intro a E
  refine wpList_nil ?_
  refine zAb hK ?_; clear hK K
  refine wp_seq_k ?_; intro K hK
  refine zAa ?_
  iterate 3 (refine zd E ?_; clear E a; intro a E)
  refine wpList_nil ?_
  refine zAb hK ?_; clear hK K
  refine wp_block ?_
  refine wp_loop_ghost (fun (m : Nat) (a : Act) (w' : World) => ∃ (j : Nat), m = 128 - j ∧ j ≤ 128 ∧ St w0 As w' ([(g8, cel (byt (xorB X (sx.take j))) 5)] :: As) ∧ Fr a 32 [(3, .slice (some ⟨g8, 0, none⟩) 128 128), (9, .slice (some ⟨g, off, none⟩) vs.length c), (10, .int .i64 vs.length), (11, .int .i64 i), (15, .slice (some ⟨gs, os, none⟩) 128 cs), (16, .int .i64 (128 : Nat)), (17, .int .i64 j)]) (128 - 0) ?_ ?_
  ·exact ⟨0, rfl, by omega, by rw [List.take_zero, xorB_nil]; exact S, E.keep (kE7 rfl rfl rfl rfl rfl rfl rfl)⟩
  clear E; clear a; (try clear S); rintro m a w ⟨j, rfl, hj, S, E⟩
  refine wp_seq_k ?_; intro K hK
  refine zAa ?_
  refine zd E ?_; clear E a; intro a E
  refine wpList_nil ?_
  refine zAb hK ?_; clear hK K
  refine wp_seq_k ?_; intro K hK
  refine zAs E rfl (fun hb => ?_) (fun hb => ?_)
  ·replace hb := Nrm.nrm hb
   refine wp_skip ?_
   refine zAb hK ?_; clear hK K
   refine wp_seq_k ?_; intro K hK
   refine wp_block ?_
   refine wp_seq_k ?_; intro K hK
   have hjl : j < 128 := by omega
   obtain ⟨q, hq⟩ : ∃ q, sx[j]? = some q := ⟨_, List.getElem?_eq_getElem oZ⟩
   obtain ⟨y, hy⟩ : ∃ y, X[j]? = some y := ⟨_, List.getElem?_eq_getElem oZ⟩
   have hqb : (byt sx)[j]? = some (.int .u8 q.toNat) := by simp [byt, hq]
   have hyi : (xorB X (sx.take j))[j]? = some y := by rw [zFt _ _ _ (by rw [List.length_take]; omega)]; exact hy
   have hyb : (byt (xorB X (sx.take j)))[j]? = some (.int .u8 y.toNat) := by simp [byt, hyi]
   have hCx : Buf [(g8, cel (byt (xorB X (sx.take j))) 5)] 5 1 (.slice (some ⟨g8, 0, none⟩) 128 128) 128 (byt (xorB X (sx.take j))) := by
    have := zHf (r := []) (T := 5) (g := g8) (c := 128) (m := 128) (s := 1) (xs := byt (xorB X (sx.take j))) (by rw [zAv, zCg]; omega) (zCq _) oZ (by simp [maxLen]) (by rw [zAv, zCg, List.length_nil]; omega)
    rwa [List.append_nil] at this
   refine zAa ?_
   refine zd E ?_; clear E a; intro a E
   refine zp E (by first | exact zAp E rfl rfl rfl rfl rfl rfl oZ | exact zAz E rfl rfl rfl rfl rfl rfl oZ | exact zAm E rfl rfl rfl rfl rfl rfl oZ) ?_; clear E a; intro a E
   refine zp E (zAo E rfl rfl rfl (hsv.2.1.cells (S.stab.at mZ) rfl j _ hqb)) ?_; clear E a; intro a E
   iterate 2 (refine zd E ?_; clear E a; intro a E)
   refine wpList_nil ?_
   refine zAb hK ?_; clear hK K
   refine zAa ?_
   iterate 2 (refine zd E ?_; clear E a; intro a E)
   refine zp E (zHn (i := j) E rfl rfl rfl rfl rfl rfl oZ) ?_; clear E a; intro a E
   refine zp E (zAo E rfl rfl rfl (by have := hCx.rd.cells (S.stab.at mZ) rfl j _ hyb; rwa [Nat.zero_add] at this)) ?_; clear E a; intro a E
   refine zd E ?_; clear E a; intro a E
   refine zp E (zDs E rfl rfl rfl (xor8 y q)) ?_; clear E a; intro a E
   refine zp E (zHn (i := j) E rfl rfl rfl rfl rfl rfl oZ) ?_; clear E a; intro a E
   refine zAf rfl (zBa E S rfl rfl rfl rfl rfl rfl pZ (by rw [zAv, zCg]; omega) ?_); clear E S a; intro a w E S; try dsimp only [List.set] at S
   refine wpList_nil ?_
   refine zAq ?_
   refine zAb hK ?_; clear hK K
   refine zAa ?_
   refine zp E (zAy E rfl rfl rfl (by first | exact zBq (y := 1) oZ | exact w_in oZ | exact zBj oZ | exact rfl)) ?_; clear E a; intro a E
   refine zd E ?_; clear E a; intro a E
   refine wpList_nil ?_
   refine zAn ?_
   exact ⟨_, by omega, j + 1, rfl, by omega, by rw [byt_set, zKk hy hq] at S; exact S, E.keep (kE7 rfl rfl rfl rfl rfl rfl rfl)⟩
  ·replace hb := Nrm.nrm hb
   refine wp_exit ?_
   refine zAl ?_; clear hK K
   refine zAl ?_
   refine zBi ?_
   refine zAq ?_
   refine zAb hK ?_; clear hK K
   obtain rfl : j = 128 := by omega
   rw [List.take_of_length_le oZ, ← hnext] at S
   refine zAa ?_
   refine zp E (zAy E rfl rfl rfl (by first | exact zBq (y := 1) oZ | exact w_in oZ | exact zBj oZ | exact rfl)) ?_; clear E a; intro a E
   refine zd E ?_; clear E a; intro a E
   refine wpList_nil ?_
   refine zAn ?_
   exact ⟨_, by omega, i + 1, rfl, by omega, S, E.keep (kE4 rfl rfl rfl rfl)⟩
 ·replace hb := Nrm.nrm hb
  refine wp_exit ?_
  refine zAl ?_; clear hK K
  refine zAl ?_
  refine zBi ?_
  refine zAb hK ?_; clear hK K
  refine wp_seq_k ?_; intro K hK
  obtain rfl : i = ss.length := by omega
  rw [List.take_length] at S
  refine zAa ?_
  iterate 2 (refine zd E ?_; clear E a; intro a E)
  refine wpList_nil ?_
  refine zAb hK ?_; clear hK K
  refine wp_ret ?_
  refine ret1 E rfl rfl ?_
  exact ⟨_, rfl, g8, rfl, S.tr⟩
end Go.Proofs.YtpjidiaekifmbaaGreatDoor
