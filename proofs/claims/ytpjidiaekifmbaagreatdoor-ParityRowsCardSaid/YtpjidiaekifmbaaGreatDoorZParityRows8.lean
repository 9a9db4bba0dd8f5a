/-
  Texts put together (8).
-/
import Derived.Test.YtpjidiaekifmbaaGreatDoorZParityRows7
set_option maxHeartbeats 1000000
namespace Go.Sl
def wk (i : Nat) : Nat := if i = 0 then 0 else if i = 1 then 274 else 290 + i
theorem labeled {l : Lbl} (h : lbE l = 0) : l.may := by
 unfold lbE at h
 by_cases q : l.may
 ·exact q
 ·rw [if_neg q] at h; cases h
theorem lbB_le {l : Lbl} (h : l.may) : (lbB l).length ≤ 96 := by
 obtain ⟨-, h2, -⟩ := h
 have h3 : (l.tops.flatMap tpB).length = l.tops.length * 6 := by
  generalize l.tops = ts
  induction ts with
  | nil => rfl
  | cons a r ih => rw [List.flatMap_cons, List.length_append, ih, List.length_cons]; simp [tpB, zBh]; omega
 rw [lbB, List.length_append, zGz, h3]; omega
theorem lbO_len {l : Lbl} (h : lbE l = 0) : (lbO l).length = 128 := by rw [lbO, if_pos h]; exact zJc (lbB_le (labeled h))
end Go.Sl
namespace Go.Proofs.YtpjidiaekifmbaaGreatDoor
open Go.Sl
set_option maxRecDepth 10000
theorem tclone_ret (O : zAj) (v : Value) (l : List Tp) (hO : Rd O 3 v l.length (l.flatMap Tp.lay)) (hl : l.length ≤ 1000000) (w0 : World) (H : Hp w0 [O]) :
  Ret Tryz.prog 66 #[v] w0 fun u w' => ∃ C, Buf C 144 3 u l.length (l.flatMap Tp.lay) ∧ Trs w0 w' [O] [C, O] := by
 have S := St.begin H
 obtain ⟨ad, c, rfl⟩ := hO.slice
 refine zCh 8 Tryz.func66 rfl rfl dZ ?_; intro a E
 refine wp_seq_k ?_; intro K hK
 refine zAa ?_
 refine zd E ?_; clear E a; intro a E
 refine wpList_nil ?_
 refine zAb hK ?_; clear hK K
 iterate 2 (refine wp_seq_k ?_; intro K hK)
 refine zAa ?_
 refine zd E ?_; clear E a; intro a E
 refine zp E (zJh E rfl rfl rfl rfl) ?_; clear E a; intro a E
 refine wpList_nil ?_
 refine zAb hK ?_; clear hK K
 refine zAs E rfl (fun hb => ?_) (fun hb => ?_)
 ·replace hb := Nrm.nrm hb
  refine wp_seq_k ?_; intro K hK
  refine zAa ?_
  refine zd E ?_; clear E a; intro a E
  refine wpList_nil ?_
  refine zAb hK ?_; clear hK K
  refine wp_ret ?_
  refine zBc ?_; clear hK K
  refine ret1 E rfl rfl ?_
  have hn : ad = none := by cases ad <;> first | rfl | (simp at hb)
  subst hn
  have hl0 : l = [] := by
   rcases hO.2.2.2 with ⟨h, _⟩ | ⟨_, _, _, _, _, _, h, _⟩
   ·exact List.eq_nil_of_length_eq_zero h
   ·cases h
  subst hl0
  exact ⟨_, rfl, [], Buf.nil _ _, S.addNil.tr⟩
 ·replace hb := Nrm.nrm hb
  refine wp_skip ?_
  refine zAb hK ?_; clear hK K
  refine wp_seq_k ?_; intro K hK
  refine zAa ?_
  refine zAf rfl (wp_bslice0 E S rfl rfl dZ rfl rfl ?_); clear E S a; intro a w b5 E S
  have hB0 : Buf [(b5, cel [] 144)] 144 3 (.slice (some ⟨b5, 0, none⟩) 0 0) 0 [] := buf_room (by simp [maxLen]) rfl
  refine zd E ?_; clear E a; intro a E
  refine zAf rfl (zBl (by' := 24) E S rfl rfl dZ rfl rfl hB0 pZ (hO.src (S.stab.at mZ) rfl) rfl rfl rfl rfl rfl rfl (by simp only [maxLen]; omega) oZ ?_); clear E S a; intro a w v7 C7 E S hB7
  refine zd E ?_; clear E a; intro a E
  refine wpList_nil ?_
  refine zAb hK ?_; clear hK K
  refine wp_ret ?_
  refine ret1 E rfl rfl ?_
  exact ⟨_, rfl, C7, by simpa using hB7, (S.front2 (A := C7) pZ (B := O) pZ).tr⟩
abbrev fm1 (b2 : Nat) : Value := .func (.func 60) #[] #[ptr b2]
abbrev fm2 (b2 : Nat) : Value := .func (.func 62) #[] #[ptr b2]
abbrev fm3 (b2 b6 b10 : Nat) : Value := .func (.func 64) #[] #[ptr b2, ptr b10, ptr b6]
abbrev fm4 (d : Nat) : Value := .func (.func 65) #[ptr d] #[]
abbrev stepsV (b2 b6 d : Nat) (bs : List Nat) : List Value := [fm1 b2, fm2 b2] ++ bs.map (fm3 b2 b6) ++ [fm4 d]
theorem steps_mid (b2 b6 d : Nat) (bs : List Nat) {k : Nat} (h : k < bs.length) : (stepsV b2 b6 d bs)[k + 2]? = some (fm3 b2 b6 bs[k]) := by
 show (bs.map (fm3 b2 b6) ++ [fm4 d])[k]? = _
 rw [List.getElem?_append_left (by simpa using h), List.getElem?_map, List.getElem?_eq_getElem h]; rfl
theorem steps_last (b2 b6 d : Nat) (bs : List Nat) (h : bs.length = 4) : (stepsV b2 b6 d bs)[6]? = some (fm4 d) := by
 rw [List.getElem?_append_right (by simp [h])]; simp [h]
theorem rd1f (g : Nat) (f : Value) (hf : f.oneCell' = true) (T : TypeId) : Rd [(g, cel [f] T)] 1 (.slice (some ⟨g, 0, none⟩) 1 1) 1 [f] := zBn rfl (by simpa using hf) oZ 1
theorem lformat_ret (P : Nat) (R : Rk) (C : zAj) (hC : RkC P R C) (x : Dk) (hx : x ∈ R.ds) (hO : On R) (hf : x.failed = false) (hws : R.ws.length + 16384 ≤ 244335861110) (hwr : R.pw.wr ≤ 900000000000000000)
  (n : Nat) (hn : x.pl.length = n * 128) (O : zAj) (v : Value) (l : Lbl) (hT : Rd O 3 v l.tops.length (l.tops.flatMap Tp.lay)) (ho : l.Ok) (hl : lbE l = 0) (hsec : (l.tops.getD l.top.toNat zIe).sectors = n) (w0 : World) (H : Hp w0 [C, O]) :
  Ret Tryz.prog 28 #[ptr x.d, lbagg l v] w0 fun u w' => ∃ p L R' C' F, u = .tuple #[ptr p, .int .i64 0] ∧ LfC p x.d L ∧ RkC P R' C' ∧ Wrote.Fl R x 296 F R' ∧ Trs w0 w' [C, O] [L, C', O] := by
 have S := St.begin H
 have hmay := labeled hl
 obtain ⟨y1, y2, y3, y4, y5, y6, y7⟩ := hmay
 have htl : l.top.toNat < l.tops.length := by omega
 have hn4 : 324 ≤ n ∧ n ≤ 8192 := by
  have := y7 (l.tops.getD l.top.toNat zIe) (by rw [List.getD_eq_getElem?_getD, List.getElem?_eq_getElem htl]; exact List.getElem_mem htl)
  obtain ⟨q1, q2, -⟩ := this
  rw [hsec] at q1 q2
  omega
 have hxl := hC.ok.1.2 x hx
 have hnd := hC.ok.1.1
 have hd : x.pl.length / 128 = n := by omega
 have hbl := lbO_len hl
 obtain ⟨lb, hlb⟩ : ∃ lb, lb = lbO l := ⟨_, rfl⟩
 rw [← hlb] at hbl
 obtain ⟨ad, c, rfl⟩ := hT.slice
 obtain ⟨ob, oo, rfl⟩ := hT.addr oZ
 obtain ⟨tn, htn⟩ : ∃ tn : Nat, l.top = tn := ⟨l.top.toNat, by omega⟩
 have hsl : (l.tops.flatMap Tp.lay)[tn * 3 + 2]? = some (.int .i64 n) := by
  have h := flat_at (lay := Tp.lay) (s := 3) Tp.lay_len l.tops tn oZ 2 (.int .i64 n) (by
   rw [htn, Int.toNat_natCast, List.getD_eq_getElem?_getD, List.getElem?_eq_getElem (by omega : tn < l.tops.length), Option.getD_some] at hsec
   rw [← hsec]; rfl)
  exact h
 refine zBx 70 Tryz.func28 rfl rfl dZ ?_; intro a E
 refine wp_seq_k ?_; intro K hK
 refine zAa ?_
 refine zAf rfl (zBz E S rfl rfl dZ rfl rfl ?_); clear E S a; intro a w b2 E S
 refine zAf rfl (zBz E S rfl rfl dZ rfl rfl ?_); clear E S a; intro a w b3 E S
 iterate 2 (refine zd E ?_; clear E a; intro a E)
 refine wpList_nil ?_
 refine zAb hK ?_; clear hK K
 refine wp_seq_k ?_; intro K hK
 refine zAa ?_
 refine zp E (zBf (vs := [_, _, _, _]) E rfl rfl rfl (S.get pZ) rfl rfl) ?_; clear E a; intro a E
 refine zAg E rfl rfl dZ rfl Tryz.func59 rfl yZ rfl (lbencode_ret O _ l hT ho _ (S.hp.sel sZ)) ?_
 rintro v16 w ⟨vb, D, rfl, hD, hT'⟩; clear E a; intro a E
 have S := S.call2 sZ hT'; rw [hl] at E; rw [← hlb] at hD
 obtain ⟨add, cd, rfl⟩ := hD.slice
 have hcd := hD.cap_le
 iterate 3 (refine zd E ?_; clear E a; intro a E)
 refine zAf rfl (zBs E S rfl rfl dZ rfl rfl rfl ?_); clear E S a; intro a w b6 E S
 refine zAf rfl (zBa E S rfl rfl rfl rfl rfl rfl pZ (by first | exact Nat.le_of_ble_eq_true rfl | (simp; done) | (simp; omega)) ?_); clear E S a; intro a w E S; try dsimp only [List.set] at S
 refine zd E ?_; clear E a; intro a E
 refine wpList_nil ?_
 refine zAb hK ?_; clear hK K
 iterate 2 (refine wp_seq_k ?_; intro K hK)
 refine zAa ?_
 iterate 2 (refine zd E ?_; clear E a; intro a E)
 refine wpList_nil ?_
 refine zAb hK ?_; clear hK K
 refine zAt E rfl (rfl) ?_
 refine wp_skip ?_
 refine zAb hK ?_; clear hK K
 iterate 2 (refine wp_seq_k ?_; intro K hK)
 refine zDe S (.ofL [(0, 0), (1, 0), (2, 0), (3, 0), (4, 0), (5, 0), (6, 0), (7, 0), (8, 1), (9, 0)]) [[(b3, cel [.int .u64 l.pool, .slice (some ⟨ob, oo, none⟩) l.tops.length c, .int .i64 l.top, .int .i64 l.place] 76)], O, [(b2, cel [ptr x.d] 56)]] (fun h => h.sub (by first | (simp; done) | (simp +contextual; done) | (simp [*]; done))) yZ yZ ?_
 clear S; intro w S
 refine zm E rfl (fun w h => by first | exact zAc (q := 1) E rfl rfl rfl | exact zAd (q := 1) E rfl rfl rfl) ?_; clear E a; intro a E
 refine zmd E ?_; clear E a; intro a E
 refine zm E rfl (fun w h => by first | exact zAc (q := 2) E rfl rfl rfl | exact zAd (q := 2) E rfl rfl rfl) ?_; clear E a; intro a E
 refine zmd E ?_; clear E a; intro a E
 refine zm E rfl (fun w h => zAz (i := tn) E rfl rfl rfl rfl rfl htn oZ) ?_; clear E a; intro a E
 refine zm E rfl (fun w h => by first | exact zAc (q := 2) E rfl rfl rfl | exact zAd (q := 2) E rfl rfl rfl) ?_; clear E a; intro a E
 refine zm E rfl (fun w h => zAo E rfl rfl rfl (hT.cells (h.at mZ) rfl (tn * 3 + 2) _ hsl)) ?_; clear E a; intro a E
 refine zmd E ?_; clear E a; intro a E
 refine zBo E rfl rfl rfl dZ rfl Tryz.func53 rfl yZ rfl (zFu P R C hC x hx _ (S.hp.sel sZ)) ?_
 rintro v30 w ⟨rfl, hT'⟩; clear E a; intro a E
 have S := S.call1 sZ hT'; rw [hd] at E
 refine ⟨S.stab.sub (by first | (simp; done) | (simp +contextual; done) | (simp [*]; done)), ?_⟩
 refine zmd E ?_; clear E a; intro a E
 refine zBd ?_
 refine zAb hK ?_; clear hK K
 refine zAt E rfl ((by simp)) ?_
 refine wp_skip ?_
 refine zAb hK ?_; clear hK K
 refine wp_seq_k ?_; intro K hK
 replace E := E.keep (e' := [(2, _), (3, _), (4, _), (5, _), (6, _)]) (kE5 rfl rfl rfl rfl rfl)
 refine zAa ?_
 iterate 2 (refine zp E (zEd E rfl rfl ⟨_, rfl⟩) ?_; clear E a; intro a E)
 refine zAf rfl (zBm (cells := [_, _]) E S rfl rfl dZ rfl rfl rfl rfl rfl dZ rfl ?_); clear E S a; intro a w b34 E S
 refine zd E ?_; clear E a; intro a E
 refine wpList_nil ?_
 have hF0 : Buf [(b34, cel [fm1 b2, fm2 b2] 59)] 59 1 (.slice (some ⟨b34, 0, none⟩) 2 2) 2 [fm1 b2, fm2 b2] := zHf (r := []) rfl (by simp [Value.oneCell']) oZ (by simp [maxLen]) rfl
 refine zAb hK ?_; clear hK K
 iterate 2 (refine wp_seq_k ?_; intro K hK)
 refine zAa ?_
 refine zd E ?_; clear E a; intro a E
 refine zAg E rfl rfl dZ rfl Tryz.func63 rfl yZ rfl (places_ret P R C hC x hx n hn oZ _ (S.hp.sel sZ)) ?_
 rintro v36 w ⟨rfl, hT'⟩; clear E a; intro a E
 have S := S.call1 sZ hT'
 refine zd E ?_; clear E a; intro a E
 refine wpList_nil ?_
 refine zAb hK ?_; clear hK K
 refine wp_block ?_
 refine wp_loop_ghost (fun (m : Nat) (a : Act) (w' : World) => ∃ (k : Nat) (bs : List Nat) (G FC : zAj) (vF : Value), m = 4 - k ∧ k ≤ 4 ∧ bs.length = k ∧ (∀ j (h : j < bs.length), (bs[j], cel [.int .i64 (plc n j)] 3) ∈ G) ∧ Buf FC 59 1 vF (2 + k) ([fm1 b2, fm2 b2] ++ bs.map (fm3 b2 b6)) ∧ (∃ Xs, St w0 [C, O] w' (FC :: G :: C :: D :: [(b6, cel [.slice add lb.length cd] 22)] :: [(b3, cel [.int .u64 l.pool, .slice (some ⟨ob, oo, none⟩) l.tops.length c, .int .i64 l.top, .int .i64 l.place] 76)] :: [(b2, cel [ptr x.d] 56)] :: O :: Xs)) ∧ Fr a 70 [(2, ptr b2), (3, ptr b3), (6, ptr b6), (8, vF), (36, .agg #[.int .i64 (plc n 0), .int .i64 (plc n 1), .int .i64 (plc n 2), .int .i64 (plc n 3)]), (37, .int .i64 k)]) (4 - 0) ?_ ?_
 ·exact ⟨0, [], [], _, _, rfl, by omega, rfl, fun j h => by simp at h, by simpa using hF0, ⟨[], S.addNil.front8 (A := [(b34, _)]) pZ (B := []) pZ (C := C) pZ (D := D) pZ (F := [(b6, _)]) pZ (G := [(b3, _)]) pZ (I := [(b2, _)]) pZ (J := O) pZ⟩, E.keep (kE6 rfl rfl rfl rfl rfl rfl)⟩
 clear E; clear a; (try clear S); rintro m a w ⟨k, bs, G, FC, vF, rfl, hk, hbs, hG, hFC, ⟨Xs, S⟩, E⟩
 refine wp_seq_k ?_; intro K hK
 refine zAa ?_
 refine zd E ?_; clear E a; intro a E
 refine wpList_nil ?_
 refine zAb hK ?_; clear hK K
 refine wp_seq_k ?_; intro K hK
 refine zAs E rfl (fun hb => ?_) (fun hb => ?_)
 ·replace hb := Nrm.nrm hb
  refine wp_skip ?_
  refine zAb hK ?_; clear hK K
  refine wp_seq_k ?_; intro K hK
  refine wp_block ?_
  refine wp_seq_k ?_; intro K hK
  have hk4 : k < 4 := by omega
  refine zAa ?_
  refine zp E (zFi E rfl rfl rfl rfl rfl rfl rfl oZ (v := .int .i64 (plc n k)) (by rcases (show k = 0 ∨ k = 1 ∨ k = 2 ∨ k = 3 by omega) with rfl | rfl | rfl | rfl <;> rfl)) ?_; clear E a; intro a E
  refine zAf rfl (zBs E S rfl rfl dZ rfl rfl rfl ?_); clear E S a; intro a w b10 E S
  refine zAf rfl (zBa E S rfl rfl rfl rfl rfl rfl pZ (by first | exact Nat.le_of_ble_eq_true rfl | (simp; done) | (simp; omega)) ?_); clear E S a; intro a w E S; try dsimp only [List.set] at S
  refine wpList_nil ?_
  refine zAb hK ?_; clear hK K
  refine zAa ?_
  refine zd E ?_; clear E a; intro a E
  refine zp E (zEd E rfl rfl ⟨_, rfl⟩) ?_; clear E a; intro a E
  refine zAf rfl (zBm (cells := [_]) E S rfl rfl dZ rfl rfl rfl rfl rfl dZ rfl ?_); clear E S a; intro a w b42 E S
  refine zAf rfl (zBl (by' := 8) E S rfl rfl dZ rfl rfl hFC pZ ((rd1f _ _ rfl _).src (S.stab.at mZ) rfl) rfl rfl rfl rfl rfl rfl (by simp only [maxLen]; omega) oZ ?_); clear E S a; intro a w v43 C43 E S hB43
  refine zd E ?_; clear E a; intro a E
  refine wpList_nil ?_
  refine zAq ?_
  refine zAb hK ?_; clear hK K
  refine zAa ?_
  refine zp E (zAy E rfl rfl rfl (by first | exact zBq (y := 1) oZ | exact w_in oZ | exact zBj oZ | exact rfl)) ?_; clear E a; intro a E
  refine zd E ?_; clear E a; intro a E
  refine wpList_nil ?_
  refine zAn ?_
  exact ⟨_, by omega, k + 1, bs ++ [b10], G ++ [(b10, cel [.int .i64 (plc n k)] 3)], C43, v43, rfl, by omega, by simp [hbs], fun j h => by
   rw [List.length_append, List.length_singleton] at h
   by_cases hj : j < bs.length
   ·rw [List.getElem_append_left hj]; exact List.mem_append_left _ (hG j hj)
   ·obtain rfl : j = bs.length := by omega
    simp [hbs], by rw [List.map_append, ← List.append_assoc, ← Nat.add_assoc]; exact hB43, ⟨_, (S.gather (A := G) (B := [(b10, cel [.int .i64 (plc n k)] 3)]) pZ pZ).front8 (A := C43) pZ (B := G ++ [(b10, cel [.int .i64 (plc n k)] 3)]) pZ (C := C) pZ (D := D) pZ (F := [(b6, _)]) pZ (G := [(b3, _)]) pZ (I := [(b2, _)]) pZ (J := O) pZ⟩, E.keep (kE6 rfl rfl rfl rfl rfl rfl)⟩
 ·replace hb := Nrm.nrm hb
  refine wp_exit ?_
  refine zAl ?_; clear hK K
  refine zAl ?_
  refine zBi ?_
  refine zAb hK ?_; clear hK K
  refine wp_seq_k ?_; intro K hK
  obtain rfl : k = 4 := by omega
  refine zAa ?_
  iterate 2 (refine zd E ?_; clear E a; intro a E)
  refine zp E (rn_bound E rfl rfl ⟨_, rfl⟩) ?_; clear E a; intro a E
  refine zAf rfl (zBm (cells := [_]) E S rfl rfl dZ rfl rfl rfl rfl rfl dZ rfl ?_); clear E S a; intro a w b48 E S
  refine zAf rfl (zBl (by' := 8) E S rfl rfl dZ rfl rfl hFC pZ ((rd1f _ _ rfl _).src (S.stab.at mZ) rfl) rfl rfl rfl rfl rfl rfl (by simp only [maxLen]; omega) oZ ?_); clear E S a; intro a w v49 C49 E S hB49
  refine zd E ?_; clear E a; intro a E
  refine wpList_nil ?_
  have hFA : Buf C49 59 1 v49 7 (stepsV b2 b6 x.d bs) := hB49
  obtain ⟨af, cf, rfl⟩ := hFA.slice
  obtain ⟨gf, rfl⟩ := hFA.addr oZ
  refine zAb hK ?_; clear hK K
  iterate 2 (refine wp_seq_k ?_; intro K hK)
  refine zAa ?_
  iterate 3 (refine zd E ?_; clear E a; intro a E)
  refine wpList_nil ?_
  refine zAb hK ?_; clear hK K
  refine wp_block ?_
  refine wp_loop_ghost (fun (m : Nat) (a : Act) (w' : World) => ∃ (i : Nat) (R' : Rk) (C' : zAj), m = 7 - i ∧ i ≤ 7 ∧ RkC P R' C' ∧ ((i < 7 ∧ ∃ nw, Wrote R x (wk i) nw R') ∨ (i = 7 ∧ ∃ F, Wrote.Fl R x 296 F R')) ∧ (∃ Xs, St w0 [C, O] w' (C' :: C49 :: G :: D :: [(b6, cel [.slice add lb.length cd] 22)] :: [(b3, cel [.int .u64 l.pool, .slice (some ⟨ob, oo, none⟩) l.tops.length c, .int .i64 l.top, .int .i64 l.place] 76)] :: [(b2, cel [ptr x.d] 56)] :: O :: Xs)) ∧ Fr a 70 [(2, ptr b2), (3, ptr b3), (50, .slice (some ⟨gf, 0, none⟩) 7 cf), (51, .int .i64 (7 : Nat)), (52, .int .i64 i)]) (7 - 0) ?_ ?_
  ·exact ⟨0, R, C, rfl, by omega, hC, .inl ⟨by omega, x.now, Wrote.zero hO hnd hx hxl.1⟩, ⟨_, S.front8 (A := C) pZ (B := C49) pZ (C := G) pZ (D := D) pZ (F := [(b6, _)]) pZ (G := [(b3, _)]) pZ (I := [(b2, _)]) pZ (J := O) pZ⟩, E.keep (kE5 rfl rfl rfl rfl rfl)⟩
  clear E; clear a; (try clear S); rintro m a w ⟨i, R', C', rfl, hi, hC', hst, ⟨Xs, S⟩, E⟩
  refine wp_seq_k ?_; intro K hK
  refine zAa ?_
  refine zd E ?_; clear E a; intro a E
  refine wpList_nil ?_
  refine zAb hK ?_; clear hK K
  refine wp_seq_k ?_; intro K hK
  refine zAs E rfl (fun hb => ?_) (fun hb => ?_)
  ·replace hb := Nrm.nrm hb
   refine wp_skip ?_
   refine zAb hK ?_; clear hK K
   refine wp_seq_k ?_; intro K hK
   refine wp_block ?_
   refine wp_seq_k ?_; intro K hK
   have hi7 : i < 7 := by omega
   obtain ⟨-, nw, hW⟩ := hst.resolve_right (fun q => by omega)
   have hx' := hW.at hx
   obtain ⟨tw, htw1, htw2, htw3⟩ := hW.ws
   have hwk : wk i ≤ 296 := by unfold wk; split; omega; split <;> omega
   have hws' : R'.ws.length + 8192 ≤ 244335861110 := by rw [htw1, List.length_append]; omega
   have hwr' : R'.pw.wr ≤ 1000000000000000000 := by rw [hW.wr]; omega
   refine zAa ?_
   rcases (show i = 0 ∨ i = 1 ∨ (2 ≤ i ∧ i < 6) ∨ i = 6 by omega) with rfl | rfl | ⟨h2, h6⟩ | rfl
   ·skip
    refine zp E (by first | exact zAp E rfl rfl rfl rfl rfl rfl oZ | exact zAz E rfl rfl rfl rfl rfl rfl oZ | exact zAm E rfl rfl rfl rfl rfl rfl oZ) ?_; clear E a; intro a E
    refine zp E (zAo E rfl rfl rfl (hFA.rd.cells (S.stab.at mZ) rfl 0 (fm1 b2) rfl)) ?_; clear E a; intro a E
    refine zd E ?_; clear E a; intro a E
    refine wpList_nil ?_
    refine zAb hK ?_; clear hK K
    refine wp_seq_k ?_; intro K hK
    refine zAa ?_
    refine zd E ?_; clear E a; intro a E
    refine zCy E rfl rfl dZ rfl rfl Tryz.func60 rfl yZ rfl (format1_ret P R' C' hC' { x with now := nw } hx' hW.on hf hws' hwr' n hn oZ b2 _ (S.hp.sel sZ)) ?_
    rintro v57 w ⟨rfl, nw2, R2, C2, hW2, hC2, hT'⟩; clear E a; intro a E
    have S := S.call2 sZ hT'; have hW := hW.more hW2
    refine zd E ?_; clear E a; intro a E
    refine wpList_nil ?_
    refine zAb hK ?_; clear hK K
    refine wp_seq_k ?_; intro K hK
    refine zAa ?_
    iterate 2 (refine zd E ?_; clear E a; intro a E)
    refine wpList_nil ?_
    refine zAb hK ?_; clear hK K
    refine zAt E rfl (rfl) ?_
    refine wp_skip ?_
    refine zAq ?_
    refine zAb hK ?_; clear hK K
    refine zAa ?_
    refine zp E (zAy E rfl rfl rfl (by first | exact zBq (y := 1) oZ | exact w_in oZ | exact zBj oZ | exact rfl)) ?_; clear E a; intro a E
    refine zd E ?_; clear E a; intro a E
    refine wpList_nil ?_
    refine zAn ?_
    exact ⟨_, by omega, 1, R2, C2, rfl, by omega, hC2, .inl ⟨by omega, _, hW⟩, ⟨_, S.front8 (A := C2) pZ (B := C49) pZ (C := G) pZ (D := D) pZ (F := [(b6, _)]) pZ (G := [(b3, _)]) pZ (I := [(b2, _)]) pZ (J := O) pZ⟩, E.keep (kE5 rfl rfl rfl rfl rfl)⟩
   ·skip
    refine zp E (by first | exact zAp E rfl rfl rfl rfl rfl rfl oZ | exact zAz E rfl rfl rfl rfl rfl rfl oZ | exact zAm E rfl rfl rfl rfl rfl rfl oZ) ?_; clear E a; intro a E
    refine zp E (zAo E rfl rfl rfl (hFA.rd.cells (S.stab.at mZ) rfl 1 (fm2 b2) rfl)) ?_; clear E a; intro a E
    refine zd E ?_; clear E a; intro a E
    refine wpList_nil ?_
    refine zAb hK ?_; clear hK K
    refine wp_seq_k ?_; intro K hK
    refine zAa ?_
    refine zd E ?_; clear E a; intro a E
    refine zCy E rfl rfl dZ rfl rfl Tryz.func62 rfl yZ rfl (format2_ret P R' C' hC' { x with now := nw } hx' hW.on hf hws' hwr' n hn oZ b2 _ (S.hp.sel sZ)) ?_
    rintro v57 w ⟨rfl, nw2, R2, C2, hW2, hC2, hT'⟩; clear E a; intro a E
    have S := S.call2 sZ hT'; have hW := hW.more hW2
    refine zd E ?_; clear E a; intro a E
    refine wpList_nil ?_
    refine zAb hK ?_; clear hK K
    refine wp_seq_k ?_; intro K hK
    refine zAa ?_
    iterate 2 (refine zd E ?_; clear E a; intro a E)
    refine wpList_nil ?_
    refine zAb hK ?_; clear hK K
    refine zAt E rfl (rfl) ?_
    refine wp_skip ?_
    refine zAq ?_
    refine zAb hK ?_; clear hK K
    refine zAa ?_
    refine zp E (zAy E rfl rfl rfl (by first | exact zBq (y := 1) oZ | exact w_in oZ | exact zBj oZ | exact rfl)) ?_; clear E a; intro a E
    refine zd E ?_; clear E a; intro a E
    refine wpList_nil ?_
    refine zAn ?_
    exact ⟨_, by omega, 2, R2, C2, rfl, by omega, hC2, .inl ⟨by omega, _, hW⟩, ⟨_, S.front8 (A := C2) pZ (B := C49) pZ (C := G) pZ (D := D) pZ (F := [(b6, _)]) pZ (G := [(b3, _)]) pZ (I := [(b2, _)]) pZ (J := O) pZ⟩, E.keep (kE5 rfl rfl rfl rfl rfl)⟩
   ·skip
    obtain ⟨k, rfl⟩ : ∃ k, i = k + 2 := ⟨i - 2, by omega⟩
    refine zp E (by first | exact zAp E rfl rfl rfl rfl rfl rfl oZ | exact zAz E rfl rfl rfl rfl rfl rfl oZ | exact zAm E rfl rfl rfl rfl rfl rfl oZ) ?_; clear E a; intro a E
    refine zp E (zAo E rfl rfl rfl (hFA.rd.cells (S.stab.at mZ) rfl (k + 2) _ (steps_mid b2 b6 x.d bs oZ))) ?_; clear E a; intro a E
    refine zd E ?_; clear E a; intro a E
    refine wpList_nil ?_
    refine zAb hK ?_; clear hK K
    refine wp_seq_k ?_; intro K hK
    refine zAa ?_
    refine zd E ?_; clear E a; intro a E
    refine zCy E rfl rfl dZ rfl rfl Tryz.func64 rfl yZ rfl (format3_ret P R' C' hC' { x with now := nw } hx' hW.on hf hws' hwr' n k hn oZ _ lb hbl D hD.rd ⟨_, _, rfl, hcd⟩ b2 bs[k] b6 G (hG k oZ) 22 _ (S.hp.sel sZ)) ?_
    rintro v57 w ⟨rfl, nw2, R2, C2, hW2, hC2, hT'⟩; clear E a; intro a E
    have S := S.call sZ hT'; have hW := hW.more hW2
    refine zd E ?_; clear E a; intro a E
    refine wpList_nil ?_
    refine zAb hK ?_; clear hK K
    refine wp_seq_k ?_; intro K hK
    refine zAa ?_
    iterate 2 (refine zd E ?_; clear E a; intro a E)
    refine wpList_nil ?_
    refine zAb hK ?_; clear hK K
    refine zAt E rfl (rfl) ?_
    refine wp_skip ?_
    refine zAq ?_
    refine zAb hK ?_; clear hK K
    refine zAa ?_
    refine zp E (zAy E rfl rfl rfl (by first | exact zBq (y := 1) oZ | exact w_in oZ | exact zBj oZ | exact rfl)) ?_; clear E a; intro a E
    refine zd E ?_; clear E a; intro a E
    refine wpList_nil ?_
    refine zAn ?_
    exact ⟨_, by omega, k + 2 + 1, R2, C2, rfl, by omega, hC2, .inl ⟨by omega, _, by rw [show wk (k + 2 + 1) = wk (k + 2) + 1 by simp [wk]; omega]; exact hW⟩, ⟨_, S.front8 (A := C2) pZ (B := C49) pZ (C := G) pZ (D := D) pZ (F := [(b6, _)]) pZ (G := [(b3, _)]) pZ (I := [(b2, _)]) pZ (J := O) pZ⟩, E.keep (kE5 rfl rfl rfl rfl rfl)⟩
   ·skip
    refine zp E (by first | exact zAp E rfl rfl rfl rfl rfl rfl oZ | exact zAz E rfl rfl rfl rfl rfl rfl oZ | exact zAm E rfl rfl rfl rfl rfl rfl oZ) ?_; clear E a; intro a E
    refine zp E (zAo E rfl rfl rfl (hFA.rd.cells (S.stab.at mZ) rfl 6 _ (steps_last b2 b6 x.d bs hbs))) ?_; clear E a; intro a E
    refine zd E ?_; clear E a; intro a E
    refine wpList_nil ?_
    refine zAb hK ?_; clear hK K
    refine wp_seq_k ?_; intro K hK
    refine zAa ?_
    refine zd E ?_; clear E a; intro a E
    refine list_callb E rfl rfl dZ rfl rfl Tryz.func65 rfl yZ rfl (rk_flush P R' C' hC' { x with now := nw } hx' _ (S.hp.sel sZ)) ?_
    rintro v57 w ⟨rfl, C2, hC2, hT'⟩; clear E a; intro a E
    have S := S.call1 sZ hT'; obtain ⟨h0, hFl⟩ := hW.flush hf; rw [h0] at E
    refine zd E ?_; clear E a; intro a E
    refine wpList_nil ?_
    refine zAb hK ?_; clear hK K
    refine wp_seq_k ?_; intro K hK
    refine zAa ?_
    iterate 2 (refine zd E ?_; clear E a; intro a E)
    refine wpList_nil ?_
    refine zAb hK ?_; clear hK K
    refine zAt E rfl (rfl) ?_
    refine wp_skip ?_
    refine zAq ?_
    refine zAb hK ?_; clear hK K
    refine zAa ?_
    refine zp E (zAy E rfl rfl rfl (by first | exact zBq (y := 1) oZ | exact w_in oZ | exact zBj oZ | exact rfl)) ?_; clear E a; intro a E
    refine zd E ?_; clear E a; intro a E
    refine wpList_nil ?_
    refine zAn ?_
    exact ⟨_, by omega, 7, _, C2, rfl, by omega, hC2, .inr ⟨rfl, nw, hFl⟩, ⟨_, S.front8 (A := C2) pZ (B := C49) pZ (C := G) pZ (D := D) pZ (F := [(b6, _)]) pZ (G := [(b3, _)]) pZ (I := [(b2, _)]) pZ (J := O) pZ⟩, E.keep (kE5 rfl rfl rfl rfl rfl)⟩
  ·replace hb := Nrm.nrm hb
   refine wp_exit ?_
   refine zAl ?_; clear hK K
   refine zAl ?_
   refine zBi ?_
   refine zAb hK ?_; clear hK K
   refine wp_seq_k ?_; intro K hK
   obtain rfl : i = 7 := by omega
   obtain ⟨-, F, hFl⟩ := hst.resolve_left (fun q => by omega)
   refine zAa ?_
   refine zp E (by first | exact zAc (q := 1) E rfl rfl rfl | exact zAd (q := 1) E rfl rfl rfl) ?_; clear E a; intro a E
   refine zd E ?_; clear E a; intro a E
   refine zAg E rfl rfl dZ rfl Tryz.func66 rfl yZ rfl (tclone_ret O _ l.tops hT oZ _ (S.hp.sel sZ)) ?_
   rintro v64 w ⟨CT, hCT, hT'⟩; clear E a; intro a E
   have S := S.call2 sZ hT'; obtain ⟨adt, ct, rfl⟩ := hCT.slice
   refine zp E (by first | exact zAc (q := 1) E rfl rfl rfl | exact zAd (q := 1) E rfl rfl rfl) ?_; clear E a; intro a E
   refine zAf rfl (zBa E S rfl rfl rfl rfl rfl rfl pZ (by first | exact Nat.le_of_ble_eq_true rfl | (simp; done) | (simp; omega)) ?_); clear E S a; intro a w E S; try dsimp only [List.set] at S
   refine wpList_nil ?_
   refine zAb hK ?_; clear hK K
   refine wp_seq_k ?_; intro K hK
   refine zAa ?_
   refine zd E ?_; clear E a; intro a E
   refine zp E (zBf (vs := [_, _, _, _]) E rfl rfl rfl (S.get pZ) rfl rfl) ?_; clear E a; intro a E
   refine zp E (zBt (cells := [_, _, _, _, _, _, _, _]) E rfl rfl rfl) ?_; clear E a; intro a E
   refine zAf rfl (zBz E S rfl rfl dZ rfl rfl ?_); clear E S a; intro a w b69 E S
   iterate 2 (refine zd E ?_; clear E a; intro a E)
   refine wpList_nil ?_
   refine zAb hK ?_; clear hK K
   refine wp_ret ?_
   refine ret2 E rfl rfl rfl ?_
   exact ⟨_, rfl, b69, _, R', C', F, rfl, ⟨_, _, _, _, 0, 0, 0, rfl⟩, hC', hFl, (S.only (Bs := [[(b69, _)], C', O]) sZ).tr⟩
end Go.Proofs.YtpjidiaekifmbaaGreatDoor
namespace Go.Sl
section
variable {P : Program} {Q : Exit → Act → World → Prop} {a : Act} {w : World} {o : Oper} {K K' : Act → World → Prop} {ro : Option Nat} {ops : Array Oper} {id : Nat}
end
section
variable {P : Program} {Q : Exit → Act → World → Prop} {a : Act} {w w0 : World} {As Ls Rs : List zAj} {o : Oper} {K : Act → World → Prop} {ro : Option Nat} {n : Nat} {e : List (Nat × Value)} {ds : List Deferred}
variable {ops : Array Oper} {rest : List Oper} {v : Value} {d : Nat}
end
section
variable {P : Program} {f : FuncId} {fn : Func} {c : Code} {w w0 : World} {As Ls Rs : List zAj} {R : Ending → World → Prop} {a : Act} {n : Nat} {e : List (Nat × Value)}
def Res1 (P : Program) (e : List (Nat × Value)) (x : ResultVar) (v : Value) (w : World) : Prop :=
 match x with
 | .tmp t => lk e t = some v
 | .cell t ty => ∃ ad, lk e t = some (.pointer (some ad)) ∧ (loadVar ty ad).run P w = .ok v w
def res1 (a : Act) (x : ResultVar) : Sem Value := match x with
 | .tmp t => pure (a.tmps.getD t undef)
 | .cell c t => do loadVar t (← asAddr (a.tmps.getD c undef))
theorem Res1.run {ds : List Deferred} (E : Fr a n e ds) {x : ResultVar} {v : Value} (h : Res1 P e x v w) : (res1 a x).run P w = .ok v w := by
 cases x with
 | tmp t =>
  have := E.get t v h
  simp [res1, Array.getD_eq_getD_getElem?, this]
 | cell c t =>
  obtain ⟨ad, h1, h2⟩ := h
  have := E.get c _ h1
  simp [res1, Array.getD_eq_getD_getElem?, this, asAddr, h2]
end
end Go.Sl
namespace Go.Sl
def zDq (n : Int) : Int := if n < 1 ∨ 1024 < n then 0 else (n + 127) / 128
theorem zHa (n : Int) : 0 ≤ zDq n ∧ zDq n ≤ 8 ∧ (0 < zDq n ↔ 1 ≤ n ∧ n ≤ 1024) ∧ (0 < zDq n → n ≤ 128 * zDq n) := by
 unfold zDq
 split
 ·refine ⟨by omega, by omega, ⟨fun h => by omega, fun h => by omega⟩, fun h => by omega⟩
 ·refine ⟨by omega, by omega, ⟨fun h => by omega, fun h => by omega⟩, fun h => by omega⟩
def fitsM (sz at_ n : Int) : Prop := 0 < zDq n ∧ 0 ≤ at_ ∧ at_ ≤ sz ∧ zDq n ≤ sz - at_
instance (sz at_ n : Int) : Decidable (fitsM sz at_ n) := by unfold fitsM; infer_instance
def padM (b : List UInt8) : List UInt8 := b ++ List.replicate ((zDq b.length).toNat * 128 - b.length) 0
theorem zHr {b : List UInt8} (h : 0 < zDq b.length) : (padM b).length = (zDq b.length).toNat * 128 := by
 have := zHa b.length
 rw [padM, List.length_append, List.length_replicate]; omega
abbrev Lf := Option (Nat × Nat)
def lv : Lf → Value
 | some x => ptr x.1
 | none => .pointer none
structure Lk where
 fr : Int
 to : Int
 is : Bool
def Lk.lay (x : Lk) : List Value := [.int .u64 x.fr, .int .u64 x.to, .bool x.is]
theorem Lk.lay_len (x : Lk) : x.lay.length = 3 := rfl
end Go.Sl
namespace Go.Proofs.YtpjidiaekifmbaaGreatDoor
open Go.Sl
set_option maxRecDepth 10000
def LvC : List Lf → zAj → Prop
 | [], C => C = []
 | none :: r, C => LvC r C
 | some x :: r, C => ∃ L C', LfC x.1 x.2 L ∧ LvC r C' ∧ C = L ++ C'
theorem LvC.at : ∀ {ls : List Lf} {C : zAj} (_ : LvC ls C) {i : Nat} {x : Nat × Nat} (_ : ls[i]? = some (some x)), ∃ A L B, C = A ++ (L ++ B) ∧ LfC x.1 x.2 L ∧ ∀ L', LfC x.1 x.2 L' → LvC ls (A ++ (L' ++ B))
 | none :: r, C, h, i, x, hi => by
  cases i with
  | zero => simp at hi
  | succ i =>
   obtain ⟨A, L, B, h1, h2, h3⟩ := LvC.at (ls := r) h (i := i) (by simpa using hi)
   exact ⟨A, L, B, h1, h2, h3⟩
 | some y :: r, C, h, i, x, hi => by
  obtain ⟨L0, C', h1, h2, rfl⟩ := h
  cases i with
  | zero =>
   simp at hi; subst hi
   exact ⟨[], L0, C', rfl, h1, fun L' hL' => ⟨L', C', hL', h2, rfl⟩⟩
  | succ i =>
   obtain ⟨A, L, B, rfl, g2, g3⟩ := LvC.at (ls := r) h2 (i := i) (by simpa using hi)
   exact ⟨L0 ++ A, L, B, by rw [List.append_assoc], g2, fun L' hL' => ⟨L0, A ++ (L' ++ B), h1, g3 L' hL', by rw [List.append_assoc]⟩⟩
 | [], _, _, i, x, hi => by simp at hi
theorem LvC.snoc : ∀ {ls : List Lf} {C : zAj} (_ : LvC ls C) {x : Nat × Nat} {L : zAj} (_ : LfC x.1 x.2 L), LvC (ls ++ [some x]) (C ++ L)
 | [], C, h, x, L, hL => by
  have h : C = [] := h
  subst h
  exact ⟨L, [], hL, rfl, by simp⟩
 | none :: r, C, h, x, L, hL => LvC.snoc (ls := r) h hL
 | some y :: r, C, h, x, L, hL => by
  obtain ⟨L0, C', h1, h2, rfl⟩ := h
  exact ⟨L0, C' ++ L, h1, LvC.snoc (ls := r) h2 hL, by rw [List.append_assoc]⟩
end Go.Proofs.YtpjidiaekifmbaaGreatDoor
namespace Go.Proofs.YtpjidiaekifmbaaGreatDoor
open Go.Sl
set_option maxRecDepth 10000
section
variable (P : Nat) (R : Rk) (C : zAj) (hC : RkC P R C) (ls : List Lf) (Lv : zAj) (hLv : LvC ls Lv) (i : Nat) (x : Nat × Nat) (hx : ls[i]? = some (some x)) (hd : R.has x.2)
include hC hLv hx hd
theorem lsize_in (w0 : World) (H : Hp w0 [C, Lv]) : Ret Tryz.prog 72 #[ptr x.1] w0 fun u w' => u = .int .i64 (zEa (dkOf R x.2)) ∧ Trs w0 w' [C, Lv] [C, Lv] := by
 obtain ⟨A, L, B, rfl, hL, hput⟩ := hLv.at hx
 have S := ((St.begin H).perm2).openMid
 refine (zKl x.1 x.2 P R C L hC hd hL w0 (S.hp.sel sZ)).mono fun u w' ⟨hu, hT⟩ => ?_
 have S := S.call2 sZ hT
 exact ⟨hu, ((S.front3 (A := L) pZ (B := A) pZ (C := B) pZ).closeMid.perm2).tr⟩
theorem lread_in (at_ many : Int) (ha : -9223372036854775808 ≤ at_ ∧ at_ ≤ 9223372036854775807) (w0 : World) (H : Hp w0 [C, Lv]) :
  Ret Tryz.prog 15 #[ptr x.1, .int .i64 at_, .int .i64 many] w0 fun u w' => ∃ v Cb Lv', u = .tuple #[v, .int .i64 (zFl R (dkOf R x.2) at_ many).1] ∧ Buf Cb 5 1 v (zFl R (dkOf R x.2) at_ many).2.length (byt (zFl R (dkOf R x.2) at_ many).2) ∧ LvC ls Lv' ∧ Trs w0 w' [C, Lv] [Cb, C, Lv'] := by
 obtain ⟨A, L, B, rfl, hL, hput⟩ := hLv.at hx
 have S := ((St.begin H).perm2).openMid
 refine (lread_ret x.1 x.2 P R C L hC hd hL at_ many ha w0 (S.hp.sel sZ)).mono fun u w' ⟨v, Cb, L', hu, hB, hL', hT⟩ => ?_
 have S := S.call3 sZ hT
 exact ⟨v, Cb, _, hu, hB, hput L' hL', ((S.front5 (A := L') pZ (B := A) pZ (C := B) pZ (D := Cb) pZ (F := C) pZ).closeMid.front3 (A := Cb) pZ (B := C) pZ (C := A ++ (L' ++ B)) pZ).tr⟩
theorem lwrite_in (hws : R.ws.length + 8192 ≤ 244335861110) (hwr : R.pw.wr ≤ 1000000000000000000) (hlf : R.pw.left ≤ 9223372036854775807)
  (at_ : Int) (ha : -9223372036854775808 ≤ at_ ∧ at_ ≤ 9223372036854775807) (v : Value) (b : List UInt8) (D : zAj) (hD : Rd D 1 v b.length (byt b)) (hcap : ∃ ad c, v = .slice ad b.length c ∧ b.length ≤ c) (w0 : World) (H : Hp w0 [C, Lv, D]) :
  Ret Tryz.prog 77 #[ptr x.1, .int .i64 at_, v] w0 fun u w' => u = .int .i64 (zDg R (dkOf R x.2) at_ b).2 ∧ ∃ C' Lv', RkC P (zDg R (dkOf R x.2) at_ b).1 C' ∧ LvC ls Lv' ∧ Trs w0 w' [C, Lv, D] [C', Lv', D] := by
 obtain ⟨A, L, B, rfl, hL, hput⟩ := hLv.at hx
 have S := ((St.begin H).perm2).openMid
 refine (lwrite_ret x.1 x.2 P R C L hC hd hL hws hwr hlf at_ ha v b D hD hcap w0 (S.hp.sel sZ)).mono fun u w' ⟨hu, C', L', hC', hL', hT⟩ => ?_
 have S := S.call3 sZ hT
 exact ⟨hu, C', _, hC', hput L' hL', ((S.front5 (A := L') pZ (B := A) pZ (C := B) pZ (D := C') pZ (F := D) pZ).closeMid.front3 (A := C') pZ (B := A ++ (L' ++ B)) pZ (C := D) pZ).tr⟩
theorem lflush_in (w0 : World) (H : Hp w0 [C, Lv]) :
  Ret Tryz.prog 56 #[ptr x.1] w0 fun u w' => u = .int .i64 (flE R.pw (dkOf R x.2).failed) ∧ ∃ C' Lv', RkC P (R.flush (dkOf R x.2)) C' ∧ LvC ls Lv' ∧ Trs w0 w' [C, Lv] [C', Lv'] := by
 obtain ⟨A, L, B, rfl, hL, hput⟩ := hLv.at hx
 have S := ((St.begin H).perm2).openMid
 refine (lflush_ret x.1 x.2 P R C L hC hd hL w0 (S.hp.sel sZ)).mono fun u w' ⟨hu, C', L', hC', hL', hT⟩ => ?_
 have S := S.call2 sZ hT
 exact ⟨hu, C', _, hC', hput L' hL', ((S.front4 (A := L') pZ (B := A) pZ (C := B) pZ (D := C') pZ).closeMid.perm2).tr⟩
end
theorem blame_in (ls : List Lf) (Lv : zAj) (hLv : LvC ls Lv) (i : Nat) (x : Nat × Nat) (hx : ls[i]? = some (some x)) (w0 : World) (H : Hp w0 [Lv]) :
  Ret Tryz.prog 41 #[ptr x.1] w0 fun _ w' => ∃ Lv', LvC ls Lv' ∧ Trs w0 w' [Lv] [Lv'] := by
 obtain ⟨A, L, B, rfl, hL, hput⟩ := hLv.at hx
 have S := (St.begin H).openMid
 refine (blame_ret x.1 x.2 L hL w0 (S.hp.sel sZ)).mono fun u w' ⟨L', hL', hT⟩ => ?_
 have S := S.call1 sZ hT
 exact ⟨_, hput L' hL', S.closeMid.tr⟩
end Go.Proofs.YtpjidiaekifmbaaGreatDoor
namespace Go.Sl
def lkZero : Lk := ⟨0, 0, false⟩
theorem zeros_lk (n : Nat) : zKa lkZero.lay.toArray (n * 3) = (List.replicate n lkZero).flatMap Lk.lay := by
 have h := made_flat (.agg lkZero.lay.toArray) n
 have h2 : zKa lkZero.lay.toArray (n * 3) = (List.replicate n lkZero.lay).flatten := by
  unfold zKa madeCells
  have := congrArg Array.toList h
  simpa [Value.cells, Lk.lay] using this
 rw [h2, List.flatMap, List.map_replicate]
theorem zJd (n : Nat) : ∀ u ∈ zKa lkZero.lay.toArray (n * 3), u.oneCell' = true := fun u hu => by
 rw [zeros_lk] at hu
 obtain ⟨x, _, hx⟩ := List.mem_flatMap.1 hu
 simp only [Lk.lay, List.mem_cons, List.not_mem_nil, or_false] at hx
 rcases hx with rfl | rfl | rfl <;> rfl
end Go.Sl
namespace Go.Proofs.YtpjidiaekifmbaaGreatDoor
open Go.Sl
set_option maxRecDepth 10000
end Go.Proofs.YtpjidiaekifmbaaGreatDoor
namespace Go.Sl
def Lk.join (o : Lk) (f t : Int) : Lk := if o.is then ⟨min f o.fr, max t o.to, true⟩ else ⟨f, t, true⟩
theorem Lk.lay_one (x : Lk) : ∀ u ∈ x.lay, u.oneCell' = true := fun u hu => by
 simp only [Lk.lay, List.mem_cons, List.not_mem_nil, or_false] at hu
 rcases hu with rfl | rfl | rfl <;> rfl
def flStep (s : Rk × Int) (o : Lf) : Rk × Int := match o with
 | some x => (s.1.flush (dkOf s.1 x.2), if (dkOf s.1 x.2).failed then s.2 else 0)
 | none => s
def flTo (R : Rk) (ls : List Lf) (i : Nat) : Rk × Int := (ls.take i).foldl flStep (R, 4)
theorem flTo_succ {R : Rk} {ls : List Lf} {i : Nat} {o : Lf} (h : ls[i]? = some o) : flTo R ls (i + 1) = flStep (flTo R ls i) o := by
 obtain ⟨hi, he⟩ := List.getElem?_eq_some_iff.1 h
 unfold flTo
 rw [← List.take_append_getElem hi, he, List.foldl_append]; rfl
end Go.Sl
namespace Go.Proofs.YtpjidiaekifmbaaGreatDoor
open Go.Sl
set_option maxRecDepth 10000
end Go.Proofs.YtpjidiaekifmbaaGreatDoor
namespace Go.Sl
def w32 (z : Int) : Int := IntKind.u32.wrap z
def or32 (a b : Int) : Int := bits .or .u32 a b
def xo32 (a b : Int) : Int := bits .xor .u32 a b
def an32 (a b : Int) : Int := bits .and .u32 a b
def nt32 (a : Int) : Int := bits .xor .u32 4294967295 a
def shl32 (x k : Int) : Int := IntKind.u32.wrap (x * 2 ^ k.toNat)
def shrI (x k : Int) : Int := x / 2 ^ k.toNat
theorem or32_comm (a b : Int) : bits .or .u32 a b = bits .or .u32 b a := by
 show IntKind.u32.wrap (((BitVec.ofInt 32 a ||| BitVec.ofInt 32 b).toNat : Nat) : Int) = IntKind.u32.wrap (((BitVec.ofInt 32 b ||| BitVec.ofInt 32 a).toNat : Nat) : Int)
 rw [BitVec.or_comm]
def rot (x k : Int) : Int := or32 (shrI x k) (shl32 x (32 - k))
theorem w8_32 (b : UInt8) : IntKind.u32.wrap (b.toNat : Int) = (b.toNat : Int) := IntWalk.u32_in _ (by have := b.toNat_lt; omega)
def word32 (b : List UInt8) (t : Nat) : Int := or32 (or32 (or32 (shl32 (gb b (4 * t)).toNat 24) (shl32 (gb b (4 * t + 1)).toNat 16)) (shl32 (gb b (4 * t + 2)).toNat 8)) (gb b (4 * t + 3)).toNat
def sg (x : Int) (p q r : Int) : Int := xo32 (xo32 (rot x p) (rot x q)) (shrI x r)
def sG (x : Int) (p q r : Int) : Int := xo32 (xo32 (rot x p) (rot x q)) (rot x r)
def wnext (w : List Int) (t : Nat) : Int := w32 (w32 (w32 (w.getD (t - 16) 0 + sg (w.getD (t - 15) 0) 7 18 3) + w.getD (t - 7) 0) + sg (w.getD (t - 2) 0) 17 19 10)
def wsN (b : List UInt8) : Nat → List Int
 | 0 => []
 | n + 1 => wsN b n ++ [if n < 16 then word32 b n else wnext (wsN b n) n]
theorem zDn (b : List UInt8) : ∀ n, (wsN b n).length = n
 | 0 => rfl
 | n + 1 => by rw [wsN, List.length_append, zDn b n]; rfl
structure S8 where
 a : Int
 b : Int
 c : Int
 d : Int
 e : Int
 f : Int
 g : Int
 h : Int
def S8.t1 (s : S8) (k x : Int) : Int := w32 (w32 (w32 (w32 (s.h + sG s.e 6 11 25) + xo32 (an32 s.e s.f) (an32 (nt32 s.e) s.g)) + k) + x)
def S8.t2 (s : S8) : Int := w32 (sG s.a 2 13 22 + xo32 (xo32 (an32 s.a s.b) (an32 s.a s.c)) (an32 s.b s.c))
def S8.step (s : S8) (k x : Int) : S8 := ⟨w32 (s.t1 k x + s.t2), s.a, s.b, s.c, w32 (s.d + s.t1 k x), s.e, s.f, s.g⟩
def S8.mix (h : S8) (K ws : List Int) : Nat → S8
 | 0 => h
 | n + 1 => (S8.mix h K ws n).step (K.getD n 0) (ws.getD n 0)
def S8.add (h v : S8) : S8 := ⟨w32 (h.a + v.a), w32 (h.b + v.b), w32 (h.c + v.c), w32 (h.d + v.d), w32 (h.e + v.e), w32 (h.f + v.f), w32 (h.g + v.g), w32 (h.h + v.h)⟩
def S8.l (s : S8) : List Int := [s.a, s.b, s.c, s.d, s.e, s.f, s.g, s.h]
abbrev u32s (l : List Int) : List Value := l.map (Value.int .u32)
def shaK : List Int := [1116352408, 1899447441, 3049323471, 3921009573, 961987163, 1508970993, 2453635748, 2870763221, 3624381080, 310598401, 607225278, 1426881987, 1925078388, 2162078206, 2614888103, 3248222580, 3835390401, 4022224774, 264347078, 604807628, 770255983, 1249150122, 1555081692, 1996064986, 2554220882, 2821834349, 2952996808, 3210313671, 3336571891, 3584528711, 113926993, 338241895, 666307205, 773529912, 1294757372, 1396182291, 1695183700, 1986661051, 2177026350, 2456956037, 2730485921, 2820302411, 3259730800, 3345764771, 3516065817, 3600352804, 4094571909, 275423344, 430227734, 506948616, 659060556, 883997877, 958139571, 1322822218, 1537002063, 1747873779, 1955562222, 2024104815, 2227730452, 2361852424, 2428436474, 2756734187, 3204031479, 3329325298]
def sha0 : S8 := ⟨1779033703, 3144134277, 1013904242, 2773480762, 1359893119, 2600822924, 528734635, 1541459225⟩
def blk (all : List UInt8) (k : Nat) : List UInt8 := (all.drop (64 * k)).take 64
def shaStep (h : S8) (b : List UInt8) : S8 := h.add (h.mix shaK (wsN b 64) 64)
def shaH (all : List UInt8) : Nat → S8
 | 0 => sha0
 | k + 1 => shaStep (shaH all k) (blk all k)
def lenB (n : Nat) : Nat → List UInt8
 | 0 => []
 | k + 1 => lenB n k ++ [UInt8.ofNat (n / 2 ^ (56 - 8 * k))]
theorem zKo (n : Nat) : ∀ k, (lenB n k).length = k
 | 0 => rfl
 | k + 1 => by rw [lenB, List.length_append, zKo n k]; rfl
def padZ (n : Nat) : Nat := (119 - n % 64) % 64
def padL (b : List UInt8) : List UInt8 := b ++ [128] ++ List.replicate (padZ b.length) 0 ++ lenB (b.length * 8) 8
theorem zGe (b : List UInt8) : (padL b).length = b.length + 9 + padZ b.length := by
 simp only [padL, List.length_append, zKo, List.length_replicate, List.length_cons, List.length_nil]; omega
theorem padL_64 (b : List UInt8) : (padL b).length % 64 = 0 := by rw [zGe, padZ]; omega
def pairI (x y : Int) : Int := bits .or .u64 (IntKind.u64.wrap (IntKind.u64.wrap x * 2 ^ (32 : Int).toNat)) (IntKind.u64.wrap y)
theorem pairI_in (x y : Int) : 0 ≤ pairI x y ∧ pairI x y < 18446744073709551616 := by
 unfold pairI
 show 0 ≤ IntKind.u64.wrap _ ∧ IntKind.u64.wrap _ < _
 rw [IntKind.wrap_u64]; omega
def pairN (x y : Int) : Nat := (pairI x y).toNat
theorem pairN_eq (x y : Int) : ((pairN x y : Nat) : Int) = pairI x y := by have := pairI_in x y; unfold pairN; omega
def S8.fs (h : S8) : Fs := ⟨pairN h.a h.b, pairN h.c h.d, pairN h.e h.f, pairN h.g h.h⟩
def shaF (b : List UInt8) : Fs := (shaH (padL b) ((padL b).length / 64)).fs
end Go.Sl
namespace Go.Sl
theorem and31 {k : Int} (h : 1 ≤ k ∧ k ≤ 31) : bits .and .u64 (18446744073709551616 - k) 31 = 32 - k := by
 have key : ∀ n : Fin 32, 1 ≤ n.val → bits .and .u64 (18446744073709551616 - (n.val : Int)) 31 = 32 - (n.val : Int) := by decide +kernel
 obtain ⟨n, rfl⟩ : ∃ n : Nat, k = n := ⟨k.toNat, by omega⟩
 exact key ⟨n, by omega⟩ (by show 1 ≤ n; omega)
theorem ws_at (b : List UInt8) (n j : Nat) (r : List Value) (h : j < n) : (u32s (wsN b n) ++ r)[j]? = some (.int .u32 ((wsN b n).getD j 0)) := by
 have hl := zDn b n
 rw [List.getElem?_append_left (by rw [List.length_map]; omega), List.getElem?_map, List.getElem?_eq_getElem oZ, List.getD, List.getElem?_eq_getElem oZ]; rfl
theorem ws_step (b : List UInt8) (n : Nat) : u32s (wsN b (n + 1)) = u32s (wsN b n) ++ [.int .u32 (if n < 16 then word32 b n else wnext (wsN b n) n)] := by rw [wsN, u32s, List.map_append]; rfl
theorem u32_at (l : List Int) {j : Nat} (h : j < l.length) : (u32s l)[j]? = some (.int .u32 (l.getD j 0)) := by
 rw [List.getElem?_map, List.getElem?_eq_getElem h, List.getD, List.getElem?_eq_getElem h]; rfl
theorem word_lit (b : List UInt8) {i : Nat} (h : 4 * i + 3 < b.length) : word32 b i = or32 (or32 (or32 (shl32 (b[4 * i]'oZ).toNat 24) (shl32 (b[4 * i + 1]'oZ).toNat 16)) (shl32 (b[4 * i + 2]'oZ).toNat 8)) (b[4 * i + 3]).toNat := by
 unfold word32; rw [zLe b oZ, zLe b oZ, zLe b oZ, zLe b h]
def addL (h v : S8) (i : Nat) : List Int := (List.range 8).map fun j => if j < i then w32 (h.l.getD j 0 + v.l.getD j 0) else h.l.getD j 0
theorem zHb (h v : S8) (i : Nat) : (addL h v i).length = 8 := by simp [addL]
theorem addL_at (h v : S8) {i : Nat} (hi : i < 8) : (addL h v i).getD i 0 = h.l.getD i 0 := by
 have : i < (addL h v i).length := by rw [zHb]; exact hi
 rw [List.getD, List.getElem?_eq_getElem this]
 simp [addL]
theorem addL_set (h v : S8) {i : Nat} (hi : i < 8) : (u32s (addL h v i)).set i (.int .u32 (w32 (h.l.getD i 0 + v.l.getD i 0))) = u32s (addL h v (i + 1)) := by
 apply List.ext_getElem?
 intro j
 rw [List.getElem?_set, List.length_map, zHb]
 by_cases hj : i = j
 ·subst hj; simp [addL, hi]
 ·rw [if_neg hj]
  simp only [u32s, List.getElem?_map, addL]
  by_cases h8 : j < 8
  ·rw [List.getElem?_range h8]
   simp only [Option.map_some]
   have : (j < i) ↔ (j < i + 1) := by omega
   simp only [this]
  ·rw [List.getElem?_eq_none (l := List.range 8) (by simp; omega)]; rfl
theorem addL_zero (h v : S8) : addL h v 0 = h.l := rfl
theorem addL_end (h v : S8) : addL h v 8 = (h.add v).l := rfl
theorem Rd.cutc {C : zAj} {s m : Nat} {xs : List Value} {ad : Option Addr} {c lo hi : Nat} (h : Rd C s (.slice ad m c) m xs) (h1 : lo ≤ hi) (h2 : hi ≤ m) (h3 : hi ≤ c) :
  ∃ ad2, sliced ad lo hi c s = .slice ad2 (hi - lo) (c - lo) ∧ Rd C s (.slice ad2 (hi - lo) (c - lo)) (hi - lo) ((xs.drop (lo * s)).take ((hi - lo) * s)) :=
 ⟨_, rfl, h.piece rfl h1 h2 h3⟩
def Tab (As : List zAj) (g : Nat) (l : List Int) : Prop := ∃ G ∈ As, ∃ T fr, (g, Obj.cells (u32s l).toArray T fr) ∈ G
theorem Tab.tail {As : List zAj} {g : Nat} {l : List Int} {A : zAj} (h : Tab As g l) : Tab (A :: As) g l := by
 obtain ⟨G, hG, r⟩ := h; exact ⟨G, List.Mem.tail _ hG, r⟩
theorem Tab.cell {As : List zAj} {g : Nat} {l : List Int} {w : World} (h : Tab As g l) (S : Stab As w) {j : Nat} (hj : j < l.length) : w.cell? ⟨g, j, none⟩ = some (.int .u32 (l.getD j 0)) := by
 obtain ⟨G, hG, T, fr, hm⟩ := h
 exact zBv (S G hG _ hm) (u32_at l hj)
theorem shaK_len : shaK.length = 64 := rfl
theorem shs {n k : Nat} (hk : k ≤ 7) : ((n : Int) * 8) / 2 ^ (56 - 8 * (k : Int)).toNat = ((n * 8 / 2 ^ (56 - 8 * k) : Nat) : Int) := by
 rw [show (56 - 8 * (k : Int)).toNat = 56 - 8 * k by omega]; simp
end Go.Sl
namespace Go.Proofs.YtpjidiaekifmbaaGreatDoor
open Go.Sl
set_option maxRecDepth 10000
theorem rotl_ret (x k : Int) (hk : 1 ≤ k ∧ k ≤ 31) (w0 : World) : Ret Tryz.prog 128 #[.int .u32 x, .int .i64 (-k)] w0 fun u w' => u = .int .u32 (rot x k) ∧ Trs w0 w' [] [] := by
 have S := St.begin (zDz w0)
 refine zBx 17 Tryz.func128 rfl rfl dZ ?_; intro a E
 refine wp_seq_k ?_; intro K hK
 refine zAa ?_
 refine zd E ?_; clear E a; intro a E
 refine wpList_nil ?_
 refine zAb hK ?_; clear hK K
 refine wp_seq_k ?_; intro K hK
 refine zAa ?_
 refine zd E ?_; clear E a; intro a E
 refine zp E (zBe E rfl rfl rfl rfl (r := 18446744073709551616 - k) (by rw [IntKind.wrap_u64]; omega)) ?_; clear E a; intro a E
 refine zp E (zGj E rfl rfl rfl (and31 hk)) ?_; clear E a; intro a E
 refine zd E ?_; clear E a; intro a E
 refine wpList_nil ?_
 refine zAb hK ?_; clear hK K
 refine wp_seq_k ?_; intro K hK
 refine zAa ?_
 iterate 2 (refine zd E ?_; clear E a; intro a E)
 refine zp E (zEn E rfl rfl rfl oZ (by simp only [IntKind.bits]; omega) rfl) ?_; clear E a; intro a E
 iterate 2 (refine zd E ?_; clear E a; intro a E)
 refine zp E (zCo E rfl rfl rfl (show IntKind.u64.wrap (32 - (32 - k)) = k by rw [IntKind.wrap_u64]; omega)) ?_; clear E a; intro a E
 refine zp E (zHv E rfl rfl rfl oZ (by simp only [IntKind.bits]; omega) rfl) ?_; clear E a; intro a E
 refine zp E (zGk E rfl rfl rfl (or32_comm _ _)) ?_; clear E a; intro a E
 refine zd E ?_; clear E a; intro a E
 refine wpList_nil ?_
 refine zAb hK ?_; clear hK K
 refine wp_ret ?_
 refine ret1 E rfl rfl ?_
 exact ⟨_, rfl, rfl, (S.only (Bs := []) sZ).tr⟩
theorem zHi (x k : Int) (hk : 1 ≤ k ∧ k ≤ 31) (w0 : World) : Ret Tryz.prog 127 #[.int .u32 x, .int .i64 k] w0 fun u w' => u = .int .u32 (rot x k) ∧ Trs w0 w' [] [] := by
 have S := St.begin (zDz w0)
 refine zBx 9 Tryz.func127 rfl rfl dZ ?_; intro a E
 refine wp_seq_k ?_; intro K hK
 refine zAa ?_
 refine zd E ?_; clear E a; intro a E
 refine wpList_nil ?_
 refine zAb hK ?_; clear hK K
 refine wp_seq_k ?_; intro K hK
 refine zAa ?_
 iterate 2 (refine zd E ?_; clear E a; intro a E)
 refine zp E (rn_neg E rfl rfl (by first | exact wn_in oZ | exact rfl)) ?_; clear E a; intro a E
 refine zAg E rfl rfl dZ rfl Tryz.func128 rfl yZ rfl (rotl_ret x k hk _) ?_
 rintro v8 w ⟨rfl, hT⟩; clear E a; intro a E
 have S := S.quiet hT
 refine zd E ?_; clear E a; intro a E
 refine wpList_nil ?_
 refine zAb hK ?_; clear hK K
 refine wp_ret ?_
 refine ret1 E rfl rfl ?_
 exact ⟨_, rfl, rfl, (S.only (Bs := []) sZ).tr⟩
theorem schedule_ret (b : List UInt8) (hl : b.length = 64) (w0 : World) : Ret Tryz.prog 125 #[.agg (byt b).toArray] w0 fun u w' => u = .agg (u32s (wsN b 64)).toArray ∧ Trs w0 w' [] [] := by
 have S := St.begin (zDz w0)
 have hbl := zAv b
 refine zCh 85 Tryz.func125 rfl rfl dZ ?_; intro a E
 refine wp_seq_k ?_; intro K hK
 refine zAa ?_
 refine zAf rfl (zBz E S rfl rfl dZ rfl rfl ?_); clear E S a; intro a w b1 E S
 refine zAf rfl (zBs E S rfl rfl dZ rfl rfl rfl ?_); clear E S a; intro a w b2 E S
 refine wpList_nil ?_
 refine zAb hK ?_; clear hK K
 refine wp_seq_k ?_; intro K hK
 refine zAa ?_
 refine zAf rfl (zBs E S rfl rfl dZ rfl rfl rfl ?_); clear E S a; intro a w b3 E S
 refine wpList_nil ?_
 refine zAb hK ?_; clear hK K
 iterate 2 (refine wp_seq_k ?_; intro K hK)
 refine zAa ?_
 refine zd E ?_; clear E a; intro a E
 refine wpList_nil ?_
 refine zAb hK ?_; clear hK K
 refine wp_block ?_
 refine wp_loop_ghost (fun (m : Nat) (a : Act) (w' : World) => ∃ i, m = 16 - i ∧ i ≤ 16 ∧ St w0 [] w' [[(b3, cel (u32s (wsN b i) ++ List.replicate (64 - i) (.int .u32 0)) 119)], [(b2, cel (List.replicate 64 (.int .u32 0)) 119)], [(b1, cel (byt b) 215)]] ∧ Fr a 85 [(1, ptr b1), (2, ptr b2), (3, ptr b3), (8, .int .i64 i)]) (16 - 0) ?_ ?_
 ·exact ⟨0, rfl, by omega, S, E.keep (kE4 rfl rfl rfl rfl)⟩
 clear E; clear a; (try clear S); rintro m a w ⟨i, rfl, hi, S, E⟩
 refine wp_seq_k ?_; intro K hK
 refine zAa ?_
 refine zd E ?_; clear E a; intro a E
 refine wpList_nil ?_
 refine zAb hK ?_; clear hK K
 refine wp_seq_k ?_; intro K hK
 refine zAs E rfl (fun hb => ?_) (fun hb => ?_)
 ·replace hb := Nrm.nrm hb
  refine wp_skip ?_
  refine zAb hK ?_; clear hK K
  refine wp_seq_k ?_; intro K hK
  refine wp_block ?_
  refine wp_seq_k ?_; intro K hK
  refine zAa ?_
  iterate 2 (refine zd E ?_; clear E a; intro a E)
  refine wpList_nil ?_
  refine zAb hK ?_; clear hK K
  have hwl := zDn b i
  have hst := ws_step b i
  rw [if_pos oZ, word_lit b oZ] at hst
  refine zAw S (.ofL [(0, 0), (1, 0), (2, 0), (3, 0), (4, 0), (5, 0), (6, 0), (7, 0), (8, 0), (9, 0), (10, 0), (11, 0), (12, 0), (13, 0), (14, 0), (15, 0), (16, 0), (17, 0), (18, 0), (19, 0), (20, 0), (21, 0), (22, 0), (23, 0), (24, 0), (25, 0), (26, 0), (27, 0), (28, 0), (29, 0), (30, 0), (31, 3)]) yZ yZ ?_
  clear S; intro w S
  iterate 2 (refine zmd E ?_; clear E a; intro a E)
  refine zm E rfl (fun w h => zCx E rfl rfl rfl (by first | exact zGn (x := 4) oZ | exact zFb (x := 4) oZ | exact w_in oZ | exact rfl)) ?_; clear E a; intro a E
  refine zm E rfl (fun w h => zCa (i := 4 * i) E rfl rfl rfl rfl rfl rfl oZ) ?_; clear E a; intro a E
  refine zm E rfl (fun w h => zAo E rfl rfl rfl (zBv (h.one mZ) (zKc b (i := 4 * i) oZ))) ?_; clear E a; intro a E
  refine zm E rfl (fun w h => zBe E rfl rfl rfl rfl (w8_32 _)) ?_; clear E a; intro a E
  refine zm E rfl (fun w h => zEn E rfl rfl rfl oZ (by simp only [IntKind.bits]; omega) rfl) ?_; clear E a; intro a E
  refine zmd E ?_; clear E a; intro a E
  refine zm E rfl (fun w h => zCx E rfl rfl rfl (by first | exact zGn (x := 4) oZ | exact zFb (x := 4) oZ | exact w_in oZ | exact rfl)) ?_; clear E a; intro a E
  refine zm E rfl (fun w h => zAy E rfl rfl rfl (by first | exact zBq (y := 1) oZ | exact w_in oZ | exact zBj oZ | exact rfl)) ?_; clear E a; intro a E
  refine zm E rfl (fun w h => zCa (i := 4 * i + 1) E rfl rfl rfl rfl rfl rfl oZ) ?_; clear E a; intro a E
  refine zm E rfl (fun w h => zAo E rfl rfl rfl (zBv (h.one mZ) (zKc b (i := 4 * i + 1) oZ))) ?_; clear E a; intro a E
  refine zm E rfl (fun w h => zBe E rfl rfl rfl rfl (w8_32 _)) ?_; clear E a; intro a E
  refine zm E rfl (fun w h => zEn E rfl rfl rfl oZ (by simp only [IntKind.bits]; omega) rfl) ?_; clear E a; intro a E
  refine zm E rfl (fun w h => zGk E rfl rfl rfl rfl) ?_; clear E a; intro a E
  refine zmd E ?_; clear E a; intro a E
  refine zm E rfl (fun w h => zCx E rfl rfl rfl (by first | exact zGn (x := 4) oZ | exact zFb (x := 4) oZ | exact w_in oZ | exact rfl)) ?_; clear E a; intro a E
  refine zm E rfl (fun w h => zAy E rfl rfl rfl (by first | exact zBq (y := 2) oZ | exact w_in oZ | exact zBj oZ | exact rfl)) ?_; clear E a; intro a E
  refine zm E rfl (fun w h => zCa (i := 4 * i + 2) E rfl rfl rfl rfl rfl rfl oZ) ?_; clear E a; intro a E
  refine zm E rfl (fun w h => zAo E rfl rfl rfl (zBv (h.one mZ) (zKc b (i := 4 * i + 2) oZ))) ?_; clear E a; intro a E
  refine zm E rfl (fun w h => zBe E rfl rfl rfl rfl (w8_32 _)) ?_; clear E a; intro a E
  refine zm E rfl (fun w h => zEn E rfl rfl rfl oZ (by simp only [IntKind.bits]; omega) rfl) ?_; clear E a; intro a E
  refine zm E rfl (fun w h => zGk E rfl rfl rfl rfl) ?_; clear E a; intro a E
  refine zmd E ?_; clear E a; intro a E
  refine zm E rfl (fun w h => zCx E rfl rfl rfl (by first | exact zGn (x := 4) oZ | exact zFb (x := 4) oZ | exact w_in oZ | exact rfl)) ?_; clear E a; intro a E
  refine zm E rfl (fun w h => zAy E rfl rfl rfl (by first | exact zBq (y := 3) oZ | exact w_in oZ | exact zBj oZ | exact rfl)) ?_; clear E a; intro a E
  refine zm E rfl (fun w h => zCa (i := 4 * i + 3) E rfl rfl rfl rfl rfl rfl oZ) ?_; clear E a; intro a E
  refine zm E rfl (fun w h => zAo E rfl rfl rfl (zBv (h.one mZ) (zKc b (i := 4 * i + 3) oZ))) ?_; clear E a; intro a E
  refine zm E rfl (fun w h => zBe E rfl rfl rfl rfl (w8_32 _)) ?_; clear E a; intro a E
  refine zm E rfl (fun w h => zGk E rfl rfl rfl rfl) ?_; clear E a; intro a E
  refine zm E rfl (fun w h => zCa (i := i) E rfl rfl rfl rfl rfl rfl oZ) ?_; clear E a; intro a E
  refine zCd rfl rfl (zBa E S rfl rfl rfl rfl rfl rfl pZ (by rw [List.length_append, List.length_map, List.length_replicate]; omega) ?_); clear E S a; intro a w E S; try dsimp only [List.set] at S
  rw [zGp (u32s (wsN b i)) 64 (.int .u32 0) _ i (by rw [List.length_map, hwl]) oZ] at S
  refine zBd ?_
  refine zAq ?_
  refine zAb hK ?_; clear hK K
  refine zAa ?_
  refine zp E (zAy E rfl rfl rfl (by first | exact zBq (y := 1) oZ | exact w_in oZ | exact zBj oZ | exact rfl)) ?_; clear E a; intro a E
  refine zd E ?_; clear E a; intro a E
  refine wpList_nil ?_
  refine zAn ?_
  exact ⟨_, by omega, i + 1, rfl, by omega, by rw [hst]; exact S, E.keep (kE4 rfl rfl rfl rfl)⟩
 ·replace hb := Nrm.nrm hb
  refine wp_exit ?_
  refine zAl ?_; clear hK K
  refine zAl ?_
  refine zBi ?_
  refine zAb hK ?_; clear hK K
  iterate 2 (refine wp_seq_k ?_; intro K hK)
  refine zAa ?_
  refine zd E ?_; clear E a; intro a E
  refine wpList_nil ?_
  refine zAb hK ?_; clear hK K
  refine wp_block ?_
  refine wp_loop_ghost (fun (m : Nat) (a : Act) (w' : World) => ∃ i, m = 64 - i ∧ 16 ≤ i ∧ i ≤ 64 ∧ St w0 [] w' [[(b3, cel (u32s (wsN b i) ++ List.replicate (64 - i) (.int .u32 0)) 119)], [(b2, cel (List.replicate 64 (.int .u32 0)) 119)], [(b1, cel (byt b) 215)]] ∧ Fr a 85 [(2, ptr b2), (3, ptr b3), (5, .int .i64 i)]) (64 - 16) ?_ ?_
  ·exact ⟨16, rfl, by omega, by omega, by obtain rfl : i = 16 := oZ; exact S, E.keep (kE3 rfl rfl rfl)⟩
  clear E; clear a; (try clear S); rintro m a w ⟨i, rfl, h16, hi, S, E⟩
  iterate 2 (refine wp_seq_k ?_; intro K hK)
  refine zAa ?_
  iterate 2 (refine zd E ?_; clear E a; intro a E)
  refine wpList_nil ?_
  refine zAb hK ?_; clear hK K
  refine zAs E rfl (fun hb => ?_) (fun hb => ?_)
  ·replace hb := Nrm.nrm hb
   refine wp_skip ?_
   refine zAb hK ?_; clear hK K
   refine wp_seq_k ?_; intro K hK
   refine wp_block ?_
   refine wp_seq_k ?_; intro K hK
   have hwl := zDn b i
   have hst := ws_step b i
   rw [if_neg oZ] at hst
   refine zAw S (.ofL [(0, 0), (1, 0), (2, 0), (3, 0), (4, 0), (5, 0), (6, 0), (7, 0), (8, 0), (9, 0)]) yZ yZ ?_
   clear S; intro w S
   refine zmd E ?_; clear E a; intro a E
   refine zm E rfl (fun w h => zCo E rfl rfl rfl (by first | exact zEc (y := 15) oZ oZ | exact w_in oZ | exact zBj oZ | exact rfl)) ?_; clear E a; intro a E
   refine zm E rfl (fun w h => zCa (i := i - 15) E rfl rfl rfl rfl rfl rfl oZ) ?_; clear E a; intro a E
   refine zm E rfl (fun w h => zAo E rfl rfl rfl (zBv (h.one mZ) (ws_at b i (i - 15) _ oZ))) ?_; clear E a; intro a E
   refine zmd E ?_; clear E a; intro a E
   refine zm E rfl (fun w h => zCo E rfl rfl rfl (by first | exact zEc (y := 2) oZ oZ | exact w_in oZ | exact zBj oZ | exact rfl)) ?_; clear E a; intro a E
   refine zm E rfl (fun w h => zCa (i := i - 2) E rfl rfl rfl rfl rfl rfl oZ) ?_; clear E a; intro a E
   refine zm E rfl (fun w h => zAo E rfl rfl rfl (zBv (h.one mZ) (ws_at b i (i - 2) _ oZ))) ?_; clear E a; intro a E
   iterate 2 (refine zmd E ?_; clear E a; intro a E)
   refine zBd ?_
   refine zAb hK ?_; clear hK K
   refine zAw S (.ofL [(0, 0), (1, 0), (2, 0), (3, 0), (4, 0), (5, 0), (7, 0), (10, 0), (11, 0), (14, 0), (15, 0), (16, 0), (17, 0), (19, 0), (21, 0), (24, 0), (25, 0), (6, 1), (8, 1), (9, 0), (12, 0), (13, 0), (18, 0), (20, 1), (22, 1), (23, 0), (26, 0), (27, 0), (28, 0), (29, 3)]) yZ yZ ?_
   clear S; intro w S
   iterate 2 (refine zmd E ?_; clear E a; intro a E)
   refine zm E rfl (fun w h => zCo E rfl rfl rfl (by first | exact zEc (y := 16) oZ oZ | exact w_in oZ | exact zBj oZ | exact rfl)) ?_; clear E a; intro a E
   refine zm E rfl (fun w h => zCa (i := i - 16) E rfl rfl rfl rfl rfl rfl oZ) ?_; clear E a; intro a E
   refine zm E rfl (fun w h => zAo E rfl rfl rfl (zBv (h.one mZ) (ws_at b i (i - 16) _ oZ))) ?_; clear E a; intro a E
   iterate 3 (refine zmd E ?_; clear E a; intro a E)
   refine zm E rfl (fun w h => zHv E rfl rfl rfl oZ (by simp only [IntKind.bits]; omega) rfl) ?_; clear E a; intro a E
   refine zmd E ?_; clear E a; intro a E
   refine zm E rfl (fun w h => zCo E rfl rfl rfl (by first | exact zEc (y := 7) oZ oZ | exact w_in oZ | exact zBj oZ | exact rfl)) ?_; clear E a; intro a E
   refine zm E rfl (fun w h => zCa (i := i - 7) E rfl rfl rfl rfl rfl rfl oZ) ?_; clear E a; intro a E
   refine zm E rfl (fun w h => zAo E rfl rfl rfl (zBv (h.one mZ) (ws_at b i (i - 7) _ oZ))) ?_; clear E a; intro a E
   iterate 3 (refine zmd E ?_; clear E a; intro a E)
   refine zm E rfl (fun w h => zHv E rfl rfl rfl oZ (by simp only [IntKind.bits]; omega) rfl) ?_; clear E a; intro a E
   refine zBo E rfl rfl rfl dZ rfl Tryz.func127 rfl yZ rfl (zHi _ 7 oZ _) ?_
   rintro v61 w ⟨rfl, hT⟩; clear E a; intro a E
   have S := S.quiet hT
   refine ⟨S.stab.sub (by first | (simp; done) | (simp +contextual; done) | (simp [*]; done)), ?_⟩
   refine zBo E rfl rfl rfl dZ rfl Tryz.func127 rfl yZ rfl (zHi _ 18 oZ _) ?_
   rintro v63 w ⟨rfl, hT⟩; clear E a; intro a E
   have S := S.quiet hT
   refine ⟨S.stab.sub (by first | (simp; done) | (simp +contextual; done) | (simp [*]; done)), ?_⟩
   iterate 2 (refine zm E rfl (fun w h => zDs E rfl rfl rfl rfl) ?_; clear E a; intro a E)
   iterate 2 (refine zm E rfl (fun w h => zAy E rfl rfl rfl (by first | exact wa1 oZ | exact w_in oZ | exact zBj oZ | exact rfl)) ?_; clear E a; intro a E)
   refine zBo E rfl rfl rfl dZ rfl Tryz.func127 rfl yZ rfl (zHi _ 17 oZ _) ?_
   rintro v75 w ⟨rfl, hT⟩; clear E a; intro a E
   have S := S.quiet hT
   refine ⟨S.stab.sub (by first | (simp; done) | (simp +contextual; done) | (simp [*]; done)), ?_⟩
   refine zBo E rfl rfl rfl dZ rfl Tryz.func127 rfl yZ rfl (zHi _ 19 oZ _) ?_
   rintro v77 w ⟨rfl, hT⟩; clear E a; intro a E
   have S := S.quiet hT
   refine ⟨S.stab.sub (by first | (simp; done) | (simp +contextual; done) | (simp [*]; done)), ?_⟩
   iterate 2 (refine zm E rfl (fun w h => zDs E rfl rfl rfl rfl) ?_; clear E a; intro a E)
   refine zm E rfl (fun w h => zAy E rfl rfl rfl (by first | exact wa1 oZ | exact w_in oZ | exact zBj oZ | exact rfl)) ?_; clear E a; intro a E
   refine zm E rfl (fun w h => zCa (i := i) E rfl rfl rfl rfl rfl rfl oZ) ?_; clear E a; intro a E
   refine zCd rfl rfl (zBa E S rfl rfl rfl rfl rfl rfl pZ (by rw [List.length_append, List.length_map, List.length_replicate]; omega) ?_); clear E S a; intro a w E S; try dsimp only [List.set] at S
   rw [zGp (u32s (wsN b i)) 64 (.int .u32 0) _ i (by rw [List.length_map, hwl]) oZ] at S
   refine zBd ?_
   refine zAq ?_
   refine zAb hK ?_; clear hK K
   refine zAa ?_
   refine zd E ?_; clear E a; intro a E
   refine zp E (zAy E rfl rfl rfl (by first | exact zBq (y := 1) oZ | exact w_in oZ | exact zBj oZ | exact rfl)) ?_; clear E a; intro a E
   refine zd E ?_; clear E a; intro a E
   refine wpList_nil ?_
   refine zAn ?_
   exact ⟨_, by omega, i + 1, rfl, by omega, by omega, by rw [hst]; exact S, E.keep (kE3 rfl rfl rfl)⟩
  ·replace hb := Nrm.nrm hb
   refine wp_exit ?_
   refine zAl ?_; clear hK K
   refine zAl ?_
   refine zBi ?_
   refine zAb hK ?_; clear hK K
   refine wp_seq_k ?_; intro K hK
   obtain rfl : i = 64 := by omega
   have hwl := zDn b 64
   rw [Nat.sub_self, List.replicate_zero, List.append_nil] at S
   obtain ⟨ws, hws⟩ : ∃ ws, ws = wsN b 64 := ⟨_, rfl⟩
   rw [← hws] at S hwl ⊢
   have hul : (u32s ws).length = 64 := by rw [List.length_map, hwl]
   refine zAa ?_
   refine zp E (zDu E rfl rfl rfl (S.get pZ) hul) ?_; clear E a; intro a E
   refine zAf rfl (zEq E S rfl rfl rfl rfl (zHz ws) rfl hul pZ (by rw [hul]; rfl) ?_); clear E S a; intro a w E S
   refine wpList_nil ?_
   refine zAb hK ?_; clear hK K
   refine wp_ret ?_
   refine zKj E rfl rfl (S.get pZ) (by rw [hul]; rfl) ?_
   exact ⟨_, rfl, (by first | (rw [← hws]; done) | with_reducible rfl), (S.only (Bs := []) sZ).tr⟩
end Go.Proofs.YtpjidiaekifmbaaGreatDoor
namespace Go.Sl
theorem s8_at (s : S8) {i : Nat} (h : i < 8) : (u32s s.l)[i]? = some (.int .u32 (s.l.getD i 0)) := u32_at s.l h
theorem lenB_succ (n k : Nat) : lenB n (k + 1) = lenB n k ++ [UInt8.ofNat (n / 2 ^ (56 - 8 * k))] := rfl
theorem blk_length (all : List UInt8) {k : Nat} (h : 64 * k + 64 ≤ all.length) : (blk all k).length = 64 := by rw [blk, List.length_take, List.length_drop]; omega
theorem zKp {n : Nat} (h : n ≤ 140737488352000) : n + 1 + padZ n + 8 ≤ 140737488352100 := by unfold padZ; omega
end Go.Sl
namespace Go.Proofs.YtpjidiaekifmbaaGreatDoor
open Go.Sl
set_option maxRecDepth 10000
theorem mixed_ret (s0 : S8) (ws : List Int) (hw : ws.length = 64) (As : List zAj) (hG : Tab As 2 shaK) (w0 : World) (H : Hp w0 As) :
  Ret Tryz.prog 124 #[.agg (u32s s0.l).toArray, .agg (u32s ws).toArray] w0 fun u w' => u = .agg (u32s (s0.add (s0.mix shaK ws 64)).l).toArray ∧ Trs w0 w' As As := by
 have S := St.begin H
 have hul : (u32s ws).length = 64 := by rw [List.length_map, hw]
 refine zBx 119 Tryz.func124 rfl rfl dZ ?_; intro a E
 refine wp_seq_k ?_; intro K hK
 refine zAa ?_
 refine zAf rfl (zBz E S rfl rfl dZ rfl rfl ?_); clear E S a; intro a w b2 E S
 refine zAf rfl (zBz E S rfl rfl dZ rfl rfl ?_); clear E S a; intro a w b3 E S
 refine zAf rfl (zBs E S rfl rfl dZ rfl rfl rfl ?_); clear E S a; intro a w b4 E S
 refine wpList_nil ?_
 refine zAb hK ?_; clear hK K
 refine wp_seq_k ?_; intro K hK
 refine zAw S (.ofL [(0, 0), (1, 0), (2, 0), (3, 0), (4, 0), (5, 0), (6, 0), (7, 0), (8, 0), (9, 0), (10, 0), (11, 0), (12, 0), (13, 0), (14, 0), (15, 0), (16, 0), (17, 0), (18, 0), (19, 0), (20, 0), (21, 0), (22, 0), (23, 0)]) yZ yZ ?_
 clear S; intro w S
 refine zm E rfl (fun w h => zCa (i := 0) E rfl rfl rfl rfl rfl rfl oZ) ?_; clear E a; intro a E
 refine zmd E ?_; clear E a; intro a E
 refine zm E rfl (fun w h => zCa (i := 1) E rfl rfl rfl rfl rfl rfl oZ) ?_; clear E a; intro a E
 refine zmd E ?_; clear E a; intro a E
 refine zm E rfl (fun w h => zCa (i := 2) E rfl rfl rfl rfl rfl rfl oZ) ?_; clear E a; intro a E
 refine zmd E ?_; clear E a; intro a E
 refine zm E rfl (fun w h => zCa (i := 3) E rfl rfl rfl rfl rfl rfl oZ) ?_; clear E a; intro a E
 refine zmd E ?_; clear E a; intro a E
 refine zm E rfl (fun w h => zCa (i := 4) E rfl rfl rfl rfl rfl rfl oZ) ?_; clear E a; intro a E
 refine zmd E ?_; clear E a; intro a E
 refine zm E rfl (fun w h => zCa (i := 5) E rfl rfl rfl rfl rfl rfl oZ) ?_; clear E a; intro a E
 refine zmd E ?_; clear E a; intro a E
 refine zm E rfl (fun w h => zCa (i := 6) E rfl rfl rfl rfl rfl rfl oZ) ?_; clear E a; intro a E
 refine zmd E ?_; clear E a; intro a E
 refine zm E rfl (fun w h => zCa (i := 7) E rfl rfl rfl rfl rfl rfl oZ) ?_; clear E a; intro a E
 iterate 9 (refine zmd E ?_; clear E a; intro a E)
 refine zBd ?_
 refine zAb hK ?_; clear hK K
 iterate 2 (refine wp_seq_k ?_; intro K hK)
 replace E := E.keep (e' := [(2, _), (3, _), (4, _), (5, _), (6, _), (7, _), (8, _), (9, _), (10, _), (11, _), (12, _)]) (kE11 rfl rfl rfl rfl rfl rfl rfl rfl rfl rfl rfl)
 refine zAa ?_
 refine zp E (zDu E rfl rfl rfl (S.get pZ) hul) ?_; clear E a; intro a E
 refine zd E ?_; clear E a; intro a E
 refine wpList_nil ?_
 refine zAb hK ?_; clear hK K
 refine wp_block ?_
 refine wp_loop_ghost (fun (m : Nat) (a : Act) (w' : World) => ∃ (i : Nat) (s : S8), m = 64 - i ∧ i ≤ 64 ∧ s = S8.mix s0 shaK ws i ∧ St w0 As w' ([(b4, cel (List.replicate 8 (.int .u32 0)) 113)] :: [(b3, cel (u32s ws) 119)] :: [(b2, cel (u32s s0.l) 113)] :: As) ∧ Fr a 119 [(2, ptr b2), (4, ptr b4), (5, .int .u32 s.a), (6, .int .u32 s.b), (7, .int .u32 s.c), (8, .int .u32 s.d), (9, .int .u32 s.e), (10, .int .u32 s.f), (11, .int .u32 s.g), (12, .int .u32 s.h), (35, .agg (u32s ws).toArray), (36, .int .i64 i)]) (64 - 0) ?_ ?_
 ·exact ⟨0, s0, rfl, by omega, rfl, S, E.keep (kE12 rfl rfl rfl rfl rfl rfl rfl rfl rfl rfl rfl rfl)⟩
 clear E; clear a; (try clear S); rintro m a w ⟨i, s, rfl, hi, hs, S, E⟩
 refine wp_seq_k ?_; intro K hK
 refine zAa ?_
 refine zd E ?_; clear E a; intro a E
 refine wpList_nil ?_
 refine zAb hK ?_; clear hK K
 refine wp_seq_k ?_; intro K hK
 refine zAs E rfl (fun hb => ?_) (fun hb => ?_)
 ·replace hb := Nrm.nrm hb
  refine wp_skip ?_
  refine zAb hK ?_; clear hK K
  refine wp_seq_k ?_; intro K hK
  refine wp_block ?_
  refine wp_seq_k ?_; intro K hK
  refine zAa ?_
  refine zd E ?_; clear E a; intro a E
  refine zp E (zFi E rfl rfl rfl rfl rfl rfl rfl oZ (v := .int .u32 (ws.getD i 0)) (by rw [List.getElem?_toArray]; exact u32_at ws oZ)) ?_; clear E a; intro a E
  iterate 2 (refine zd E ?_; clear E a; intro a E)
  refine wpList_nil ?_
  refine zAb hK ?_; clear hK K
  refine wp_seq_k ?_; intro K hK
  refine zAw S (.ofL [(0, 0), (1, 0), (3, 0), (6, 0), (10, 0), (11, 0), (12, 0), (13, 0), (14, 0), (15, 0), (16, 0), (17, 0), (19, 0), (20, 0), (21, 0), (23, 0), (2, 1), (4, 1), (5, 0), (7, 1), (8, 0), (9, 0), (18, 0), (22, 0), (24, 0), (25, 0)]) yZ yZ ?_
  clear S; intro w S
  iterate 6 (refine zmd E ?_; clear E a; intro a E)
  refine zm E rfl (fun w h => zGj E rfl rfl rfl rfl) ?_; clear E a; intro a E
  refine zmd E ?_; clear E a; intro a E
  refine zm E rfl (fun w h => rn_com E rfl rfl rfl) ?_; clear E a; intro a E
  refine zmd E ?_; clear E a; intro a E
  refine zm E rfl (fun w h => zGj E rfl rfl rfl rfl) ?_; clear E a; intro a E
  refine zm E rfl (fun w h => zDs E rfl rfl rfl rfl) ?_; clear E a; intro a E
  refine zmd E ?_; clear E a; intro a E
  refine zm E rfl (fun w h => zCa (i := i) E rfl rfl rfl rfl rfl rfl oZ) ?_; clear E a; intro a E
  refine zm E rfl (fun w h => zAo E rfl rfl rfl (hG.tail.tail.tail.cell h (j := i) (by rw [shaK_len]; omega))) ?_; clear E a; intro a E
  refine zmd E ?_; clear E a; intro a E
  refine zBo E rfl rfl rfl dZ rfl Tryz.func127 rfl yZ rfl (zHi s.e 6 oZ _) ?_
  rintro v42 w ⟨rfl, hT⟩; clear E a; intro a E
  have S := S.quiet hT
  refine ⟨S.stab.sub (by first | (simp; done) | (simp +contextual; done) | (simp [*]; done)), ?_⟩
  refine zBo E rfl rfl rfl dZ rfl Tryz.func127 rfl yZ rfl (zHi s.e 11 oZ _) ?_
  rintro v44 w ⟨rfl, hT⟩; clear E a; intro a E
  have S := S.quiet hT
  refine ⟨S.stab.sub (by first | (simp; done) | (simp +contextual; done) | (simp [*]; done)), ?_⟩
  refine zm E rfl (fun w h => zDs E rfl rfl rfl rfl) ?_; clear E a; intro a E
  refine zBo E rfl rfl rfl dZ rfl Tryz.func127 rfl yZ rfl (zHi s.e 25 oZ _) ?_
  rintro v47 w ⟨rfl, hT⟩; clear E a; intro a E
  have S := S.quiet hT
  refine ⟨S.stab.sub (by first | (simp; done) | (simp +contextual; done) | (simp [*]; done)), ?_⟩
  refine zm E rfl (fun w h => zDs E rfl rfl rfl rfl) ?_; clear E a; intro a E
  iterate 4 (refine zm E rfl (fun w h => zAy E rfl rfl rfl (by first | exact wa1 oZ | exact w_in oZ | exact zBj oZ | exact rfl)) ?_; clear E a; intro a E)
  refine zmd E ?_; clear E a; intro a E
  refine zBd ?_
  refine zAb hK ?_; clear hK K
  refine wp_seq_k ?_; intro K hK
  refine zAa ?_
  refine zd E ?_; clear E a; intro a E
  refine zAg E rfl rfl dZ rfl Tryz.func127 rfl yZ rfl (zHi s.a 2 oZ _) ?_
  rintro v66 w ⟨rfl, hT⟩; clear E a; intro a E
  have S := S.quiet hT
  refine zd E ?_; clear E a; intro a E
  refine zAg E rfl rfl dZ rfl Tryz.func127 rfl yZ rfl (zHi s.a 13 oZ _) ?_
  rintro v68 w ⟨rfl, hT⟩; clear E a; intro a E
  have S := S.quiet hT
  refine zp E (zDs E rfl rfl rfl rfl) ?_; clear E a; intro a E
  refine zd E ?_; clear E a; intro a E
  refine zAg E rfl rfl dZ rfl Tryz.func127 rfl yZ rfl (zHi s.a 22 oZ _) ?_
  rintro v71 w ⟨rfl, hT⟩; clear E a; intro a E
  have S := S.quiet hT
  refine zp E (zDs E rfl rfl rfl rfl) ?_; clear E a; intro a E
  iterate 2 (refine zd E ?_; clear E a; intro a E)
  refine zp E (zGj E rfl rfl rfl rfl) ?_; clear E a; intro a E
  iterate 2 (refine zd E ?_; clear E a; intro a E)
  refine zp E (zGj E rfl rfl rfl rfl) ?_; clear E a; intro a E
  refine zp E (zDs E rfl rfl rfl rfl) ?_; clear E a; intro a E
  iterate 2 (refine zd E ?_; clear E a; intro a E)
  refine zp E (zGj E rfl rfl rfl rfl) ?_; clear E a; intro a E
  refine zp E (zDs E rfl rfl rfl rfl) ?_; clear E a; intro a E
  refine zp E (zAy E rfl rfl rfl (by first | exact wa1 oZ | exact w_in oZ | exact zBj oZ | exact rfl)) ?_; clear E a; intro a E
  refine zd E ?_; clear E a; intro a E
  refine wpList_nil ?_
  refine zAb hK ?_; clear hK K
  refine zAa ?_
  iterate 5 (refine zd E ?_; clear E a; intro a E)
  refine zp E (zAy E rfl rfl rfl (by first | exact wa1 oZ | exact w_in oZ | exact zBj oZ | exact rfl)) ?_; clear E a; intro a E
  iterate 5 (refine zd E ?_; clear E a; intro a E)
  refine zp E (zAy E rfl rfl rfl (by first | exact wa1 oZ | exact w_in oZ | exact zBj oZ | exact rfl)) ?_; clear E a; intro a E
  iterate 8 (refine zd E ?_; clear E a; intro a E)
  refine wpList_nil ?_
  refine zAq ?_
  refine zAb hK ?_; clear hK K
  replace E := E.keep (e' := [(2, _), (4, _), (5, _), (6, _), (7, _), (8, _), (9, _), (10, _), (11, _), (12, _), (13, _), (14, _), (15, _), (16, _), (35, _), (36, _), (37, _), (38, _), (39, _), (40, _), (41, _), (42, _), (43, _), (44, _), (45, _), (46, _), (47, _), (48, _), (49, _), (50, _), (51, _), (52, _), (53, _), (54, _), (55, _), (56, _), (57, _), (58, _), (59, _), (60, _), (61, _), (62, _), (63, _), (64, _), (65, _), (66, _), (67, _), (68, _), (69, _), (70, _), (71, _), (72, _), (73, _), (74, _), (75, _), (76, _), (77, _), (78, _), (79, _), (80, _), (81, _), (82, _), (83, _), (84, _), (85, _), (86, _), (87, _), (88, _), (89, _), (90, _), (91, _), (92, _), (93, _), (94, _), (95, _), (96, _)]) (zAh rfl (zAh rfl (zAh rfl (zAh rfl (zAh rfl (zAh rfl (zAh rfl (zAh rfl (zAh rfl (zAh rfl (zAh rfl (zAh rfl (zAh rfl (zAh rfl (zAh rfl (zAh rfl (zAh rfl (zAh rfl (zAh rfl (zAh rfl (zAh rfl (zAh rfl (zAh rfl (zAh rfl (zAh rfl (zAh rfl (zAh rfl (zAh rfl (zAh rfl (zAh rfl (zAh rfl (zAh rfl (zAh rfl (zAh rfl (zAh rfl (zAh rfl (zAh rfl (zAh rfl (zAh rfl (zAh rfl (zAh rfl (zAh rfl (zAh rfl (zAh rfl (zAh rfl (zAh rfl (zAh rfl (zAh rfl (zAh rfl (zAh rfl (zAh rfl (zAh rfl (zAh rfl (zAh rfl (zAh rfl (zAh rfl (zAh rfl (zAh rfl (zAh rfl (zAh rfl (zAh rfl (zAh rfl (zAh rfl (zAh rfl (zAh rfl (zAh rfl (zAh rfl (zAh rfl (zAh rfl (zAh rfl (zAh rfl (zAh rfl (zAh rfl (zAh rfl (zAh rfl (zAh rfl (zDh)))))))))))))))))))))))))))))))))))))))))))))))))))))))))))))))))))))))))))))
  refine zAa ?_
  refine zp E (zAy E rfl rfl rfl (by first | exact zBq (y := 1) oZ | exact w_in oZ | exact zBj oZ | exact rfl)) ?_; clear E a; intro a E
  refine zd E ?_; clear E a; intro a E
  refine wpList_nil ?_
  refine zAn ?_
  exact ⟨_, by omega, i + 1, s.step (shaK.getD i 0) (ws.getD i 0), rfl, by omega, by rw [hs]; rfl, S, E.keep (kE12 rfl rfl rfl rfl rfl rfl rfl rfl rfl rfl rfl rfl)⟩
 ·replace hb := Nrm.nrm hb
  refine wp_exit ?_
  refine zAl ?_; clear hK K
  refine zAl ?_
  refine zBi ?_
  refine zAb hK ?_; clear hK K
  iterate 2 (refine wp_seq_k ?_; intro K hK)
  obtain rfl : i = 64 := by omega
  refine zAa ?_
  iterate 8 (refine zd E ?_; clear E a; intro a E)
  refine zp E (zBt (cells := [_, _, _, _, _, _, _, _]) E rfl rfl rfl) ?_; clear E a; intro a E
  refine zd E ?_; clear E a; intro a E
  refine wpList_nil ?_
  refine zAb hK ?_; clear hK K
  refine wp_block ?_
  refine wp_loop_ghost (fun (m : Nat) (a : Act) (w' : World) => ∃ i, m = 8 - i ∧ i ≤ 8 ∧ St w0 As w' ([(b2, cel (u32s (addL s0 s i)) 113)] :: [(b4, cel (List.replicate 8 (.int .u32 0)) 113)] :: [(b3, cel (u32s ws) 119)] :: As) ∧ Fr a 119 [(2, ptr b2), (4, ptr b4), (106, .agg (u32s s.l).toArray), (107, .int .i64 i)]) (8 - 0) ?_ ?_
  ·exact ⟨0, rfl, by omega, by rw [addL_zero]; exact S.front3 pZ (B := [(b4, _)]) pZ (C := [(b3, _)]) pZ, E.keep (kE4 rfl rfl rfl rfl)⟩
  clear E; clear a; (try clear S); rintro m a w ⟨i, rfl, hi, S, E⟩
  refine wp_seq_k ?_; intro K hK
  refine zAa ?_
  refine zd E ?_; clear E a; intro a E
  refine wpList_nil ?_
  refine zAb hK ?_; clear hK K
  refine wp_seq_k ?_; intro K hK
  refine zAs E rfl (fun hb => ?_) (fun hb => ?_)
  ·replace hb := Nrm.nrm hb
   refine wp_skip ?_
   refine zAb hK ?_; clear hK K
   refine wp_seq_k ?_; intro K hK
   refine wp_block ?_
   refine wp_seq_k ?_; intro K hK
   refine zAa ?_
   refine zd E ?_; clear E a; intro a E
   refine zp E (zFi E rfl rfl rfl rfl rfl rfl rfl oZ (v := .int .u32 (s.l.getD i 0)) (by rw [List.getElem?_toArray]; exact s8_at s oZ)) ?_; clear E a; intro a E
   iterate 2 (refine zd E ?_; clear E a; intro a E)
   refine wpList_nil ?_
   refine zAb hK ?_; clear hK K
   refine zAa ?_
   refine zd E ?_; clear E a; intro a E
   refine zp E (zCa (i := i) E rfl rfl rfl rfl rfl rfl oZ) ?_; clear E a; intro a E
   refine zp E (zAo E rfl rfl rfl (zBv (S.get pZ) (v := .int .u32 (s0.l.getD i 0)) (by rw [u32_at _ (by rw [zHb]; omega), addL_at s0 s oZ]))) ?_; clear E a; intro a E
   refine zd E ?_; clear E a; intro a E
   refine zp E (zAy E rfl rfl rfl (by first | exact wa1 oZ | exact w_in oZ | exact zBj oZ | exact rfl)) ?_; clear E a; intro a E
   refine zp E (zCa (i := i) E rfl rfl rfl rfl rfl rfl oZ) ?_; clear E a; intro a E
   refine zAf rfl (zBa E S rfl rfl rfl rfl rfl rfl pZ (by rw [List.length_map, zHb]; omega) ?_); clear E S a; intro a w E S; try dsimp only [List.set] at S
   refine wpList_nil ?_
   refine zAq ?_
   refine zAb hK ?_; clear hK K
   refine zAa ?_
   refine zp E (zAy E rfl rfl rfl (by first | exact zBq (y := 1) oZ | exact w_in oZ | exact zBj oZ | exact rfl)) ?_; clear E a; intro a E
   refine zd E ?_; clear E a; intro a E
   refine wpList_nil ?_
   refine zAn ?_
   exact ⟨_, by omega, i + 1, rfl, by omega, by rw [← addL_set s0 s oZ]; exact S, E.keep (kE4 rfl rfl rfl rfl)⟩
  ·replace hb := Nrm.nrm hb
   refine wp_exit ?_
   refine zAl ?_; clear hK K
   refine zAl ?_
   refine zBi ?_
   refine zAb hK ?_; clear hK K
   refine wp_seq_k ?_; intro K hK
   obtain rfl : i = 8 := by omega
   rw [addL_end, hs] at S
   refine zAa ?_
   refine zp E (zDu E rfl rfl rfl (S.get pZ) rfl) ?_; clear E a; intro a E
   refine zAf rfl (zEq E S rfl rfl rfl rfl (zHz _) rfl rfl pZ (by rfl) ?_); clear E S a; intro a w E S
   refine wpList_nil ?_
   refine zAb hK ?_; clear hK K
   refine wp_ret ?_
   refine zKj E rfl rfl (S.get pZ) rfl ?_
   exact ⟨_, rfl, rfl, S.tail3.tr⟩
theorem zJo (s : S8) (b3 : Nat) (i : Nat) (hi : i + 1 < 8) (w0 : World) (H : Hp w0 [[(b3, cel (u32s s.l) 113)]]) :
  Ret Tryz.prog 126 #[.int .i64 i, ptr b3] w0 fun u w' => u = .int .u64 (pairN (s.l.getD i 0) (s.l.getD (i + 1) 0)) ∧ Trs w0 w' [[(b3, cel (u32s s.l) 113)]] [[(b3, cel (u32s s.l) 113)]] := by
 have S := St.begin H
 refine zBx 15 Tryz.func126 rfl rfl dZ ?_; intro a E
 refine wp_seq_k ?_; intro K hK
 refine zAa ?_
 refine zd E ?_; clear E a; intro a E
 refine wpList_nil ?_
 refine zAb hK ?_; clear hK K
 refine wp_seq_k ?_; intro K hK
 refine zAw S (.ofL [(0, 0), (1, 0), (2, 0), (3, 0), (4, 0), (5, 0), (6, 0), (7, 0), (8, 0), (9, 0), (10, 0), (11, 0)]) yZ yZ ?_
 clear S; intro w S
 refine zmd E ?_; clear E a; intro a E
 refine zm E rfl (fun w h => zCa (i := i) E rfl rfl rfl rfl rfl rfl oZ) ?_; clear E a; intro a E
 refine zm E rfl (fun w h => zAo E rfl rfl rfl (zBv (h.one mZ) (s8_at s (i := i) oZ))) ?_; clear E a; intro a E
 refine zm E rfl (fun w h => zBe E rfl rfl rfl rfl rfl) ?_; clear E a; intro a E
 refine zm E rfl (fun w h => zEn E rfl rfl rfl oZ (by simp only [IntKind.bits]; omega) rfl) ?_; clear E a; intro a E
 refine zmd E ?_; clear E a; intro a E
 refine zm E rfl (fun w h => zAy E rfl rfl rfl (by first | exact zBq (y := 1) oZ | exact w_in oZ | exact zBj oZ | exact rfl)) ?_; clear E a; intro a E
 refine zm E rfl (fun w h => zCa (i := i + 1) E rfl rfl rfl rfl rfl rfl oZ) ?_; clear E a; intro a E
 refine zm E rfl (fun w h => zAo E rfl rfl rfl (zBv (h.one mZ) (s8_at s (i := i + 1) oZ))) ?_; clear E a; intro a E
 refine zm E rfl (fun w h => zBe E rfl rfl rfl rfl rfl) ?_; clear E a; intro a E
 refine zm E rfl (fun w h => zGk E rfl rfl rfl rfl) ?_; clear E a; intro a E
 refine zmd E ?_; clear E a; intro a E
 refine zBd ?_
 refine zAb hK ?_; clear hK K
 refine wp_ret ?_
 refine ret1 E rfl rfl ?_
 exact ⟨_, rfl, by rw [pairN_eq]; rfl, S.tr⟩
end Go.Proofs.YtpjidiaekifmbaaGreatDoor
namespace Go.Sl
theorem buf_hcap {C : zAj} {T : TypeId} {s m : Nat} {v : Value} {xs : List Value} (h : Buf C T s v m xs) : ∃ ad c, v = .slice ad m c ∧ m ≤ c := by
 obtain ⟨ad, c, rfl⟩ := h.slice
 exact ⟨ad, c, rfl, h.cap_le⟩
theorem pad_zero (b : List UInt8) (z : Nat) : byt (b ++ [128] ++ List.replicate (z + 1) 0) = byt (b ++ [128] ++ List.replicate z 0) ++ [.int .u8 0] := by
 rw [List.replicate_succ', ← List.append_assoc, zBw]; rfl
def padH (b : List UInt8) : List UInt8 := b ++ [128] ++ List.replicate (padZ b.length) 0
theorem zKq (b : List UInt8) : (padH b).length = b.length + 1 + padZ b.length := by simp [padH]; omega
theorem padH_len (b : List UInt8) : padH b ++ lenB (b.length * 8) 8 = padL b := rfl
theorem drop_blk (all : List UInt8) (k : Nat) : ((byt (all.drop (64 * k))).drop (0 * 1)).take ((64 - 0) * 1) = byt (blk all k) := by simp [blk, zEl]
theorem drop_next (all : List UInt8) (k n : Nat) (h : all.length ≤ n + 64 * k + 64) : ((byt (all.drop (64 * k))).drop (64 * 1)).take (n * 1) = byt (all.drop (64 * (k + 1))) := by
 rw [zEx, zEl, List.drop_drop, List.take_of_length_le (by rw [List.length_drop]; omega), show 64 * k + 64 * 1 = 64 * (k + 1) by omega]
end Go.Sl
namespace Go.Proofs.YtpjidiaekifmbaaGreatDoor
open Go.Sl
set_option maxRecDepth 10000
set_option maxHeartbeats 1000000 in
theorem sha_ret (D : zAj) (v : Value) (b : List UInt8) (hD : Rd D 1 v b.length (byt b)) (hbl : b.length ≤ 140737488352000) (As : List zAj) (hDA : D ∈ As) (hG : Tab As 2 shaK) (w0 : World) (H : Hp w0 As) :
  Ret Tryz.prog 113 #[v] w0 fun u w' => u = (shaF b).agg ∧ Trs w0 w' As As := by
 have S := (St.begin H).addNil
 have hps := zKp hbl
 have hHl := zKq b
 have hLl := zGe b
 have hL64 := padL_64 b
 obtain ⟨ad0, c0, rfl⟩ := hD.slice
 refine zCh 55 Tryz.func113 rfl rfl dZ ?_; intro a E
 refine wp_seq_k ?_; intro K hK
 refine zAa ?_
 refine zAf rfl (zBs E S rfl rfl dZ rfl rfl rfl ?_); clear E S a; intro a w b2 E S
 refine wpList_nil ?_
 refine zAb hK ?_; clear hK K
 refine wp_seq_k ?_; intro K hK
 refine zAa ?_
 refine zp E (zBt (cells := [_, _, _, _, _, _, _, _]) E rfl rfl rfl) ?_; clear E a; intro a E
 refine zAf rfl (zBs E S rfl rfl dZ rfl rfl rfl ?_); clear E S a; intro a w b3 E S
 refine zAf rfl (zBr E S rfl rfl rfl rfl (by simp [Value.oneCell']) rfl pZ (by simp) ?_); clear E S a; intro a w E S; simp only [List.take_succ_cons, List.take_zero, List.drop_succ_cons, List.drop_zero, List.cons_append, List.nil_append, List.append_nil, List.length_cons, List.length_nil, Nat.zero_add, Nat.add_zero] at S
 refine wpList_nil ?_
 refine zAb hK ?_; clear hK K
 refine wp_seq_k ?_; intro K hK
 refine zAa ?_
 refine zd E ?_; clear E a; intro a E
 refine zAf rfl (zBl (by' := 1) E S rfl rfl dZ rfl rfl (Buf.nil _ _) pZ (hD.src (S.stab.at mZ) rfl) rfl rfl rfl rfl rfl rfl (by simp only [maxLen]; omega) oZ ?_); clear E S a; intro a w v9 C9 E S hB9
 simp only [Nat.zero_add, List.nil_append] at hB9
 refine zAf rfl (zBm (cells := [_]) E S rfl rfl dZ rfl rfl rfl rfl rfl dZ rfl ?_); clear E S a; intro a w b10 E S
 refine zAf rfl (zBl (by' := 1) E S rfl rfl dZ rfl rfl hB9 pZ ((zBn (g := b10) (T := 5) (xs := [.int .u8 128]) (s := 1) (m := 1) rfl (by simp [Value.oneCell']) oZ 1).src (S.stab.at mZ) rfl) rfl rfl rfl rfl rfl rfl (by simp only [maxLen]; omega) oZ ?_); clear E S a; intro a w v11 C11 E S hB11
 refine zd E ?_; clear E a; intro a E
 refine wpList_nil ?_
 have S := (S.del (A := [(b10, _)]) pZ).front3 (A := C11) pZ (B := [(b3, _)]) pZ (C := [(b2, _)]) pZ
 refine zAb hK ?_; clear hK K
 refine wp_seq_k ?_; intro K hK
 refine wp_block ?_
 refine wp_loop_ghost (fun (m : Nat) (a : Act) (w' : World) => ∃ (z : Nat) (v : Value) (C : zAj), m = padZ b.length - z ∧ z ≤ padZ b.length ∧ Buf C 5 1 v (b.length + 1 + z) (byt (b ++ [128] ++ List.replicate z 0)) ∧ St w0 As w' (C :: [(b3, cel (u32s sha0.l) 113)] :: [(b2, cel [.int .u64 0, .int .u64 0, .int .u64 0, .int .u64 0] 29)] :: As) ∧ Fr a 55 [(0, .slice ad0 b.length c0), (2, ptr b2), (3, ptr b3), (4, v)]) (padZ b.length - 0) ?_ ?_
 ·exact ⟨0, v11, C11, rfl, by omega, by rw [List.replicate_zero, List.append_nil, zBw]; exact hB11, S, E.keep (kE4 rfl rfl rfl rfl)⟩
 clear E; clear a; (try clear S); rintro m a w ⟨z, v, C, rfl, hz, hC, S, E⟩
 iterate 2 (refine wp_seq_k ?_; intro K hK)
 obtain ⟨adv, cv, rfl⟩ := hC.slice
 refine zAa ?_
 iterate 2 (refine zd E ?_; clear E a; intro a E)
 refine zp E (zGh E rfl rfl rfl dZ (by first | exact zLn (y := 64) | exact rfl)) ?_; clear E a; intro a E
 refine zd E ?_; clear E a; intro a E
 refine wpList_nil ?_
 refine zAb hK ?_; clear hK K
 refine zAs E rfl (fun hb => ?_) (fun hb => ?_)
 ·replace hb := Nrm.nrm hb
  refine wp_skip ?_
  refine zAb hK ?_; clear hK K
  refine wp_block ?_
  refine zAa ?_
  refine zd E ?_; clear E a; intro a E
  refine zAf rfl (zBm (cells := [_]) E S rfl rfl dZ rfl rfl rfl rfl rfl dZ rfl ?_); clear E S a; intro a w b17 E S
  refine zAf rfl (zBl (by' := 1) E S rfl rfl dZ rfl rfl hC pZ ((zBn (g := b17) (T := 5) (xs := [.int .u8 0]) (s := 1) (m := 1) rfl (by simp [Value.oneCell']) oZ 1).src (S.stab.at mZ) rfl) rfl rfl rfl rfl rfl rfl (by simp only [maxLen]; omega) oZ ?_); clear E S a; intro a w v18 C18 E S hB18
  refine zd E ?_; clear E a; intro a E
  refine wpList_nil ?_
  refine zAq ?_
  refine zAn ?_
  rw [← pad_zero] at hB18
  exact ⟨_, by unfold padZ at *; omega, z + 1, v18, C18, rfl, by unfold padZ at *; omega, hB18, (S.del (A := [(b17, _)]) pZ).front3 (A := C18) pZ (B := [(b3, _)]) pZ (C := [(b2, _)]) pZ, E.keep (kE4 rfl rfl rfl rfl)⟩
 ·replace hb := Nrm.nrm hb
  refine wp_exit ?_
  refine zAl ?_; clear hK K
  refine zAl ?_
  refine zBi ?_
  refine zAb hK ?_; clear hK K
  iterate 2 (refine wp_seq_k ?_; intro K hK)
  have hzz : z = padZ b.length := by unfold padZ at *; omega
  subst hzz
  have hC : Buf C 5 1 (.slice adv (b.length + 1 + padZ b.length) cv) (b.length + 1 + padZ b.length) (byt (padH b)) := hC
  refine zAa ?_
  refine zd E ?_; clear E a; intro a E
  refine wpList_nil ?_
  refine zAb hK ?_; clear hK K
  refine wp_block ?_
  refine wp_loop_ghost (fun (m : Nat) (a : Act) (w' : World) => ∃ (k : Nat) (v : Value) (C : zAj), m = 8 - k ∧ k ≤ 8 ∧ Buf C 5 1 v (b.length + 1 + padZ b.length + k) (byt (padH b ++ lenB (b.length * 8) k)) ∧ St w0 As w' (C :: [(b3, cel (u32s sha0.l) 113)] :: [(b2, cel [.int .u64 0, .int .u64 0, .int .u64 0, .int .u64 0] 29)] :: As) ∧ Fr a 55 [(0, .slice ad0 b.length c0), (2, ptr b2), (3, ptr b3), (4, v), (5, .int .i64 (56 - 8 * (k : Int)))]) (8 - 0) ?_ ?_
  ·exact ⟨0, _, C, rfl, by omega, by rw [lenB, List.append_nil, Nat.add_zero]; exact hC, S, E.keep (kE5 rfl rfl rfl rfl rfl)⟩
  clear E; clear a; (try clear S); rintro m a w ⟨k, v, C, rfl, hk, hC, S, E⟩
  iterate 2 (refine wp_seq_k ?_; intro K hK)
  refine zAa ?_
  iterate 2 (refine zd E ?_; clear E a; intro a E)
  refine wpList_nil ?_
  refine zAb hK ?_; clear hK K
  refine zAs E rfl (fun hb => ?_) (fun hb => ?_)
  ·replace hb := Nrm.nrm hb
   refine wp_skip ?_
   refine zAb hK ?_; clear hK K
   refine wp_seq_k ?_; intro K hK
   refine wp_block ?_
   obtain ⟨adv, cv, rfl⟩ := hC.slice
   have hq1 : [UInt8.ofNat (b.length * 8 / 2 ^ (56 - 8 * k))].length = 1 := rfl
   refine zAa ?_
   iterate 3 (refine zd E ?_; clear E a; intro a E)
   refine zp E (by first | exact zBe E rfl rfl rfl rfl (by first | exact wu8 _ | exact zHm oZ | exact zEo oZ | exact w_in oZ | exact zBj oZ | exact rfl) | exact zCc E rfl rfl rfl rfl rfl (by assumption) (S.stab.at (by simp))) ?_; clear E a; intro a E
   refine zp E (zCx E rfl rfl rfl (zBj oZ)) ?_; clear E a; intro a E
   refine zd E ?_; clear E a; intro a E
   refine zp E (zHv E rfl rfl rfl oZ (by simp only [IntKind.bits]; omega) rfl) ?_; clear E a; intro a E
   rw [shs oZ] at E
   refine zp E (zBe E rfl rfl rfl rfl (w8 _)) ?_; clear E a; intro a E
   refine zAf rfl (zBm (cells := [_]) E S rfl rfl dZ rfl rfl rfl rfl rfl dZ rfl ?_); clear E S a; intro a w b31 E S
   refine zAf rfl (zBl (by' := 1) E S rfl rfl dZ rfl rfl hC pZ ((zFv b31 [UInt8.ofNat (b.length * 8 / 2 ^ (56 - 8 * k))] 5 (by simp)).rd.src (S.stab.at mZ) rfl) rfl rfl rfl rfl rfl rfl (by simp only [maxLen]; omega) oZ ?_); clear E S a; intro a w v32 C32 E S hB32
   refine zd E ?_; clear E a; intro a E
   refine wpList_nil ?_
   refine zAq ?_
   refine zAb hK ?_; clear hK K
   refine zAa ?_
   refine zd E ?_; clear E a; intro a E
   refine zp E (zCo E rfl rfl rfl (w_in oZ)) ?_; clear E a; intro a E
   refine zd E ?_; clear E a; intro a E
   refine wpList_nil ?_
   refine zAn ?_
   rw [show (56 - 8 * (k : Int)) - 8 = 56 - 8 * ((k + 1 : Nat) : Int) by omega] at E
   rw [← zBw, List.append_assoc, ← lenB_succ] at hB32
   exact ⟨_, by omega, k + 1, v32, C32, rfl, by omega, hB32, (S.del (A := [(b31, _)]) pZ).front3 (A := C32) pZ (B := [(b3, _)]) pZ (C := [(b2, _)]) pZ, E.keep (kE5 rfl rfl rfl rfl rfl)⟩
  ·replace hb := Nrm.nrm hb
   refine wp_exit ?_
   refine zAl ?_; clear hK K
   refine zAl ?_
   refine zBi ?_
   refine zAb hK ?_; clear hK K
   refine wp_seq_k ?_; intro K hK
   refine wp_block ?_
   refine wp_loop_ghost (fun (m : Nat) (a : Act) (w' : World) => ∃ (j : Nat) (ad : Option Addr) (c : Nat), m = (padL b).length / 64 - j ∧ j ≤ (padL b).length / 64 ∧ (padL b).length - 64 * j ≤ c ∧ Rd C 1 (.slice ad ((padL b).length - 64 * j) c) ((padL b).length - 64 * j) (byt ((padL b).drop (64 * j))) ∧ St w0 As w' ([(b3, cel (u32s (shaH (padL b) j).l) 113)] :: C :: [(b2, cel [.int .u64 0, .int .u64 0, .int .u64 0, .int .u64 0] 29)] :: As) ∧ Fr a 55 [(2, ptr b2), (3, ptr b3), (4, .slice ad ((padL b).length - 64 * j) c)]) ((padL b).length / 64 - 0) ?_ ?_
   ·obtain rfl : k = 8 := oZ; rw [padH_len] at hC; obtain ⟨adv, cv, rfl, hcv⟩ := buf_hcap hC; have hlen : b.length + 1 + padZ b.length + 8 = (padL b).length - 64 * 0 := oZ; rw [hlen] at hC E hcv; exact ⟨0, adv, cv, rfl, by omega, hcv, by rw [Nat.mul_zero, List.drop_zero]; exact hC.rd, S.front2 pZ pZ, E.keep (kE3 rfl rfl rfl)⟩
   clear E; clear a; (try clear S); rintro m a w ⟨j, ad, c, rfl, hj, hc, hR, S, E⟩
   iterate 2 (refine wp_seq_k ?_; intro K hK)
   refine zAa ?_
   iterate 3 (refine zd E ?_; clear E a; intro a E)
   refine wpList_nil ?_
   refine zAb hK ?_; clear hK K
   refine zAs E rfl (fun hb => ?_) (fun hb => ?_)
   ·replace hb := Nrm.nrm hb
    refine wp_skip ?_
    refine zAb hK ?_; clear hK K
    refine wp_seq_k ?_; intro K hK
    refine wp_block ?_
    have hjl : 64 * j + 64 ≤ (padL b).length := by omega
    obtain ⟨ad2, hs2, hR2⟩ := hR.cutc (lo := 0) (hi := 64) oZ oZ oZ
    rw [drop_blk] at hR2
    obtain ⟨g2, off2, rfl⟩ := hR2.addr oZ
    have hbk := blk_length (padL b) hjl
    refine zAw S (.ofL [(0, 0), (1, 0), (2, 0), (3, 0), (4, 0), (5, 1), (6, 1), (7, 3)]) yZ yZ ?_
    clear S; intro w S
    refine zm E rfl (fun w h => zDu E rfl rfl rfl (h.one mZ) rfl) ?_; clear E a; intro a E
    refine zmd E ?_; clear E a; intro a E
    refine zm E rfl (fun w h => zIn (s := 1) (hi := 64) E rfl rfl rfl rfl rfl rfl oZ) ?_; clear E a; intro a E
    rw [hs2] at E
    refine zm E rfl (fun w h => rn_s2a E rfl rfl rfl oZ) ?_; clear E a; intro a E
    refine zm E rfl (fun w h => zDx (vs := byt (blk (padL b) j)) E rfl rfl rfl (by rw [zAv, hbk]; rfl) (hR2.cells (h.at mZ) rfl)) ?_; clear E a; intro a E
    refine zBo E rfl rfl rfl dZ rfl Tryz.func125 rfl yZ rfl (schedule_ret (blk (padL b) j) hbk _) ?_
    rintro v43 w ⟨rfl, hT⟩; clear E a; intro a E
    have S := S.quiet hT
    refine ⟨S.stab.sub (by first | (simp; done) | (simp +contextual; done) | (simp [*]; done)), ?_⟩
    refine zBo E rfl rfl rfl dZ rfl Tryz.func124 rfl yZ rfl (mixed_ret (shaH (padL b) j) (wsN (blk (padL b) j) 64) (zDn _ _) As hG _ S.tail3.hp) ?_
    rintro v44 w ⟨rfl, hT⟩; clear E a; intro a E
    have S := St.under [_, _, _] S hT
    refine ⟨S.stab.sub (by first | (simp; done) | (simp +contextual; done) | (simp [*]; done)), ?_⟩
    refine zCd rfl rfl (zEq E S rfl rfl rfl rfl (zHz _) rfl rfl pZ (by rfl) ?_); clear E S a; intro a w E S
    refine zBd ?_
    refine zAq ?_
    refine zAb hK ?_; clear hK K
    obtain ⟨ad3, hs3, hR3⟩ := hR.cutc (lo := 64) (hi := (padL b).length - 64 * j) oZ oZ oZ
    rw [drop_next (padL b) j ((padL b).length - 64 * j - 64) oZ, show (padL b).length - 64 * j - 64 = (padL b).length - 64 * (j + 1) by omega] at hR3
    rw [show (padL b).length - 64 * j - 64 = (padL b).length - 64 * (j + 1) by omega] at hs3
    refine zAa ?_
    refine zd E ?_; clear E a; intro a E
    refine zp E (zGw (s := 1) (lo := 64) E rfl rfl rfl rfl rfl rfl oZ) ?_; clear E a; intro a E
    rw [hs3] at E
    refine zd E ?_; clear E a; intro a E
    refine wpList_nil ?_
    refine zAn ?_
    exact ⟨_, by omega, j + 1, ad3, c - 64, rfl, by omega, by omega, hR3, S, E.keep (kE3 rfl rfl rfl)⟩
   ·replace hb := Nrm.nrm hb
    refine wp_exit ?_
    refine zAl ?_; clear hK K
    refine zAl ?_
    refine zBi ?_
    refine zAb hK ?_; clear hK K
    refine wp_seq_k ?_; intro K hK
    obtain ⟨hh, hhe⟩ : ∃ hh, hh = shaH (padL b) ((padL b).length / 64) := ⟨_, rfl⟩
    obtain rfl : j = (padL b).length / 64 := by omega
    rw [← hhe] at S
    refine zAa ?_
    refine zp E (zEd E rfl rfl ⟨_, rfl⟩) ?_; clear E a; intro a E
    refine zd E ?_; clear E a; intro a E
    refine wpList_nil ?_
    refine zAb hK ?_; clear hK K
    refine wp_seq_k ?_; intro K hK
    refine zAa ?_
    refine zd E ?_; clear E a; intro a E
    refine zCy E rfl rfl dZ rfl rfl Tryz.func126 rfl yZ rfl (zJo hh b3 0 oZ _ (S.hp.sel sZ)) ?_
    rintro v47 w ⟨rfl, hT⟩; clear E a; intro a E
    have S := S.call1 sZ hT
    refine zd E ?_; clear E a; intro a E
    refine zCy E rfl rfl dZ rfl rfl Tryz.func126 rfl yZ rfl (zJo hh b3 2 oZ _ (S.hp.sel sZ)) ?_
    rintro v49 w ⟨rfl, hT⟩; clear E a; intro a E
    have S := S.call1 sZ hT
    refine zd E ?_; clear E a; intro a E
    refine zCy E rfl rfl dZ rfl rfl Tryz.func126 rfl yZ rfl (zJo hh b3 4 oZ _ (S.hp.sel sZ)) ?_
    rintro v51 w ⟨rfl, hT⟩; clear E a; intro a E
    have S := S.call1 sZ hT
    refine zd E ?_; clear E a; intro a E
    refine zCy E rfl rfl dZ rfl rfl Tryz.func126 rfl yZ rfl (zJo hh b3 6 oZ _ (S.hp.sel sZ)) ?_
    rintro v53 w ⟨rfl, hT⟩; clear E a; intro a E
    have S := S.call1 sZ hT
    refine zp E (zBt (cells := [_, _, _, _]) E rfl rfl rfl) ?_; clear E a; intro a E
    refine zAf rfl (zBr E S rfl rfl rfl rfl (by simp [Value.oneCell']) rfl pZ (by simp) ?_); clear E S a; intro a w E S; simp only [List.take_succ_cons, List.take_zero, List.drop_succ_cons, List.drop_zero, List.cons_append, List.nil_append, List.append_nil, List.length_cons, List.length_nil, Nat.zero_add, Nat.add_zero] at S
    refine wpList_nil ?_
    refine zAb hK ?_; clear hK K
    refine wp_ret ?_
    refine zKj E rfl rfl (S.get pZ) rfl ?_
    exact ⟨_, rfl, by rw [shaF, ← hhe]; rfl, S.tail3.tr⟩
end Go.Proofs.YtpjidiaekifmbaaGreatDoor
