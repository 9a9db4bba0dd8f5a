/-
  Texts put together (3).
-/
import Derived.Test.YtpjidiaekifmbaaGreatDoorZParityRows2
set_option maxHeartbeats 1000000
namespace Go.Sl
theorem zFd (n : Nat) : byt (List.replicate n 0) = List.replicate n (.int .u8 0) := by simp [byt]
theorem copy_head {l ys : List Value} {k : Nat} (hl : l.length = k) (hy : k ≤ ys.length) : l.take 0 ++ ys.take (min ys.length k) ++ l.drop (0 + min ys.length k) = ys.take k := by
 rw [Nat.min_eq_right hy, Nat.zero_add, List.take_zero, List.nil_append, ← hl, List.drop_length, List.append_nil]
end Go.Sl
namespace Go.Proofs.YtpjidiaekifmbaaGreatDoor
open Go.Sl
set_option maxRecDepth 10000
theorem dnew_ret (p : Nat) (s : Pw) (vw vd : Value) (k : Nat) (xs : List Value) (Cd : zAj) (hCd : Buf Cd 56 1 vd k xs) (hk : k ≤ 1000) (n : Nat) (h1 : 1 ≤ n) (h2 : n ≤ 8192) (w0 : World) (H : Hp w0 [[(p, pcl s vw vd)], Cd]) :
  Ret Tryz.prog 26 #[ptr p, .int .i64 n] w0 fun u w' => ∃ d gp gn vd' Cd', u = .tuple #[ptr d, .int .i64 0] ∧ Buf Cd' 56 1 vd' (k + 1) (xs ++ [ptr d]) ∧
   Trs w0 w' [[(p, pcl s vw vd)], Cd] [[(p, pcl s vw vd')], Cd', [(d, dcl p gp gn (n * 128) false)], [(gp, cel (byt (List.replicate (n * 128) 0)) 5)], [(gn, cel (byt (List.replicate (n * 128) 0)) 5)]] := by
 have S := St.begin H
 obtain ⟨add, cd, rfl⟩ := hCd.slice
 refine zBx 37 Tryz.func26 rfl rfl dZ ?_; intro a E
 refine wp_seq_k ?_; intro K hK
 refine zAa ?_
 iterate 2 (refine zd E ?_; clear E a; intro a E)
 refine wpList_nil ?_
 refine zAb hK ?_; clear hK K
 iterate 2 (refine wp_seq_k ?_; intro K hK)
 refine zAa ?_
 iterate 3 (refine zd E ?_; clear E a; intro a E)
 refine zBg E (t := 9) rfl (rfl) (fun hb9 => ?_)
 iterate 2 (refine zyd E hb9 ?_; clear E a; intro a E)
 refine zp E (zAk E rfl rfl hb9 rfl) ?_; clear E a; intro a E
 refine zd E ?_; clear E a; intro a E
 refine zBg E (t := 13) rfl ((decide_eq_false oZ)) (fun hb13 => ?_)
 iterate 2 (refine zyd E hb13 ?_; clear E a; intro a E)
 refine zp E (zAk E rfl rfl hb13 rfl) ?_; clear E a; intro a E
 refine wpList_nil ?_
 refine zAb hK ?_; clear hK K
 refine zAt E rfl ((decide_eq_false oZ)) ?_
 refine wp_skip ?_
 refine zAb hK ?_; clear hK K
 refine wp_seq_k ?_; intro K hK
 refine zDl (fun (a : Act) (w' : World) => ∃ d gp gn, St w0 [[(p, pcl s (vw) (.slice add k cd))], Cd] w' ([(d, dcl p gp gn (n * 128) false)] :: [(gp, cel (byt (List.replicate (n * 128) 0)) 5)] :: [(gn, cel (byt (List.replicate (n * 128) 0)) 5)] :: [(p, pcl s vw (.slice add k cd))] :: [Cd]) ∧ Fr a 37 [(0, ptr p), (6, ptr d)]) ?_ ?_
 ·skip
  refine zAw S (.cons (0, 0) (.cons (1, 0) (.cons (2, 0) (.cons (4, 0) (.cons (5, 0) (.fork 3 (.ofL [(6, 1), (7, 0), (8, 3), (9, 2)]) 6 (.ofL [(3, 1), (7, 0), (8, 3), (9, 2)]))))))) yZ yZ ?_
  clear S; intro w S
  iterate 2 (refine zmd E ?_; clear E a; intro a E)
  refine zm E rfl (fun w h => zCx E rfl rfl rfl (by first | exact zGa (y := 128) oZ | exact w_in oZ | exact rfl)) ?_; clear E a; intro a E
  refine zmd E ?_; clear E a; intro a E
  refine zm E rfl (fun w h => zCx E rfl rfl rfl (by first | exact zGa (y := 128) oZ | exact w_in oZ | exact rfl)) ?_; clear E a; intro a E
  refine ⟨?_, ?_⟩
  ·skip
   refine zDb rfl rfl (zCn (by' := 1) E S rfl rfl dZ rfl rfl rfl rfl rfl rfl rfl rfl rfl rfl rfl (by first | exact mkb oZ | exact mkb8 oZ | exact mkbn rfl oZ) (by simp only [maxLen]; omega) ?_); clear E S a; intro a w g20 E S; refine ⟨S.stab.sub (by first | (simp; done) | (simp +contextual; done) | (simp [*]; done)), ?_⟩
   refine zDb rfl rfl (zCn (by' := 1) E S rfl rfl dZ rfl rfl rfl rfl rfl rfl rfl rfl rfl rfl rfl (by first | exact mkb oZ | exact mkb8 oZ | exact mkbn rfl oZ) (by simp only [maxLen]; omega) ?_); clear E S a; intro a w g23 E S; refine ⟨S.stab.sub (by first | (simp; done) | (simp +contextual; done) | (simp [*]; done)), ?_⟩
   refine zm E rfl (fun w h => zBt (cells := [_, _, _, _]) E rfl rfl rfl) ?_; clear E a; intro a E
   refine zCd rfl rfl (zBz E S rfl rfl dZ rfl rfl ?_); clear E S a; intro a w b25 E S
   refine zBp E rfl rfl rfl dZ (fun w => zCi E rfl rfl) ?_; clear E a; intro a E
   refine zBd ?_
   refine zAx ?_
   exact ⟨b25, g20, g23, by rw [zFd]; exact S.front3 (A := [(b25, _)]) pZ (B := [(g20, _)]) pZ (C := [(g23, _)]) pZ, E.keep (kE2 rfl rfl)⟩
  ·skip
   refine zDb rfl rfl (zCn (by' := 1) E S rfl rfl dZ rfl rfl rfl rfl rfl rfl rfl rfl rfl rfl rfl (by first | exact mkb oZ | exact mkb8 oZ | exact mkbn rfl oZ) (by simp only [maxLen]; omega) ?_); clear E S a; intro a w g23 E S; refine ⟨S.stab.sub (by first | (simp; done) | (simp +contextual; done) | (simp [*]; done)), ?_⟩
   refine zDb rfl rfl (zCn (by' := 1) E S rfl rfl dZ rfl rfl rfl rfl rfl rfl rfl rfl rfl rfl rfl (by first | exact mkb oZ | exact mkb8 oZ | exact mkbn rfl oZ) (by simp only [maxLen]; omega) ?_); clear E S a; intro a w g20 E S; refine ⟨S.stab.sub (by first | (simp; done) | (simp +contextual; done) | (simp [*]; done)), ?_⟩
   refine zm E rfl (fun w h => zBt (cells := [_, _, _, _]) E rfl rfl rfl) ?_; clear E a; intro a E
   refine zCd rfl rfl (zBz E S rfl rfl dZ rfl rfl ?_); clear E S a; intro a w b25 E S
   refine zBp E rfl rfl rfl dZ (fun w => zCi E rfl rfl) ?_; clear E a; intro a E
   refine zBd ?_
   refine zAx ?_
   exact ⟨b25, g20, g23, by rw [zFd]; exact S.front3 (A := [(b25, _)]) pZ (B := [(g20, _)]) pZ (C := [(g23, _)]) pZ, E.keep (kE2 rfl rfl)⟩
 ·clear E S a; intro a w J; obtain ⟨d, gp, gn, S, E⟩ := J
  refine zAb hK ?_; clear hK K
  refine wp_seq_k ?_; intro K hK
  refine zAa ?_
  iterate 3 (refine zd E ?_; clear E a; intro a E)
  refine zp E (by first | exact zAc (q := 4) E rfl rfl rfl | exact zAd (q := 4) E rfl rfl rfl) ?_; clear E a; intro a E
  iterate 2 (refine zd E ?_; clear E a; intro a E)
  refine zAf rfl (zBm (cells := [_]) E S rfl rfl dZ rfl rfl rfl rfl rfl dZ rfl ?_); clear E S a; intro a w b32 E S
  refine zAf rfl (zBl (by' := 8) E S rfl rfl dZ rfl rfl hCd pZ ((zBn (g := b32) (T := 56) (xs := [ptr d]) (s := 1) (m := 1) rfl (by simp [Value.oneCell']) oZ 1).src (S.stab.at mZ) rfl) rfl rfl rfl rfl rfl rfl (by simp only [maxLen]; omega) oZ ?_); clear E S a; intro a w v33 C33 E S hB33
  obtain ⟨ad33, c33, rfl⟩ := hB33.slice
  refine zd E ?_; clear E a; intro a E
  refine zp E (by first | exact zAc (q := 4) E rfl rfl rfl | exact zAd (q := 4) E rfl rfl rfl) ?_; clear E a; intro a E
  refine zAf rfl (zBa E S rfl rfl rfl rfl rfl rfl pZ (by first | exact Nat.le_of_ble_eq_true rfl | (simp; done) | (simp; omega)) ?_); clear E S a; intro a w E S; try dsimp only [List.set] at S
  refine wpList_nil ?_
  refine zAb hK ?_; clear hK K
  refine wp_seq_k ?_; intro K hK
  refine zAa ?_
  iterate 3 (refine zd E ?_; clear E a; intro a E)
  refine wpList_nil ?_
  refine zAb hK ?_; clear hK K
  refine wp_ret ?_
  refine ret2 E rfl rfl rfl ?_
  exact ⟨_, rfl, d, gp, gn, _, C33, rfl, hB33, ((S.del (A := [(b32, _)]) pZ).front4 (A := [(p, _)]) pZ (B := C33) pZ (C := [(d, _)]) pZ (D := [(gp, _)]) pZ).tr⟩
theorem dread_ret (d p gp gn : Nat) (f : Bool) (s : Pw) (vw vd : Value) (nw : List UInt8) (hn : nw.length ≤ 1048576) (at_ many : Int) (ha : -9223372036854775808 ≤ at_ ∧ at_ ≤ 9223372036854775807) (w0 : World)
  (H : Hp w0 [[(p, pcl s vw vd)], [(d, dcl p gp gn nw.length f)], [(gn, cel (byt nw) 5)]]) :
  Ret Tryz.prog 48 #[ptr d, .int .i64 at_, .int .i64 many] w0 fun u w' =>
   (s.off = true ∧ u = .tuple #[.slice none 0 0, .int .i64 5] ∧ Trs w0 w' [[(p, pcl s vw vd)], [(d, dcl p gp gn nw.length f)], [(gn, cel (byt nw) 5)]] [[(p, pcl s vw vd)], [(d, dcl p gp gn nw.length f)], [(gn, cel (byt nw) 5)]]) ∨
   (s.off = false ∧ f = true ∧ u = .tuple #[.slice none 0 0, .int .i64 30] ∧ Trs w0 w' [[(p, pcl s vw vd)], [(d, dcl p gp gn nw.length f)], [(gn, cel (byt nw) 5)]] [[(p, pcl s vw vd)], [(d, dcl p gp gn nw.length f)], [(gn, cel (byt nw) 5)]]) ∨
   (s.off = false ∧ f = false ∧ ¬ (0 ≤ at_ ∧ 0 ≤ many ∧ at_ ≤ (nw.length / 128 : Nat) ∧ many ≤ (nw.length / 128 : Nat) - at_) ∧ u = .tuple #[.slice none 0 0, .int .i64 1] ∧ Trs w0 w' [[(p, pcl s vw vd)], [(d, dcl p gp gn nw.length f)], [(gn, cel (byt nw) 5)]] [[(p, pcl s vw vd)], [(d, dcl p gp gn nw.length f)], [(gn, cel (byt nw) 5)]]) ∨
   (s.off = false ∧ f = false ∧ (0 ≤ at_ ∧ 0 ≤ many ∧ at_ ≤ (nw.length / 128 : Nat) ∧ many ≤ (nw.length / 128 : Nat) - at_) ∧ ∃ g, u = .tuple #[.slice (some ⟨g, 0, none⟩) (many.toNat * 128) (many.toNat * 128), .int .i64 0] ∧
    Trs w0 w' [[(p, pcl s vw vd)], [(d, dcl p gp gn nw.length f)], [(gn, cel (byt nw) 5)]] [[(g, cel (byt ((nw.drop (at_.toNat * 128)).take (many.toNat * 128))) 5)], [(p, pcl s vw vd)], [(d, dcl p gp gn nw.length f)], [(gn, cel (byt nw) 5)]]) := by
 have S := St.begin H
 refine zDi 33 Tryz.func48 rfl rfl dZ ?_; intro a E
 refine wp_seq_k ?_; intro K hK
 refine zAa ?_
 iterate 2 (refine zd E ?_; clear E a; intro a E)
 refine wpList_nil ?_
 refine zAb hK ?_; clear hK K
 iterate 2 (refine wp_seq_k ?_; intro K hK)
 refine zAa ?_
 refine zd E ?_; clear E a; intro a E
 refine zAg E rfl rfl dZ rfl Tryz.func81 rfl yZ rfl (down_ret d p gp gn _ f s vw vd _ (S.hp.sel sZ)) ?_
 rintro v11 w ⟨rfl, hT⟩; clear E a; intro a E
 have S := S.call2 sZ hT
 have S := S.front3 (A := [(p, _)]) pZ (B := [(d, _)]) pZ (C := [(gn, _)]) pZ
 refine zd E ?_; clear E a; intro a E
 refine wpList_nil ?_
 refine zAb hK ?_; clear hK K
 refine wp_seq_k ?_; intro K hK
 refine zAa ?_
 iterate 2 (refine zd E ?_; clear E a; intro a E)
 refine wpList_nil ?_
 refine zAb hK ?_; clear hK K
 refine zAs E rfl (fun hb => ?_) (fun hb => ?_)
 ·replace hb := Nrm.nrm hb
  refine wp_seq_k ?_; intro K hK
  refine zAa ?_
  iterate 3 (refine zd E ?_; clear E a; intro a E)
  refine wpList_nil ?_
  refine zAb hK ?_; clear hK K
  refine wp_ret ?_
  refine zBc ?_; clear hK K
  refine ret2 E rfl rfl rfl ?_
  rcases hs : s.off with _ | _
  ·rcases hf : f with _ | _
   ·simp [hs, hf] at hb
   ·exact ⟨_, rfl, .inr (.inl ⟨rfl, rfl, by simp, by rw [← hf]; exact S.tr⟩)⟩
  ·exact ⟨_, rfl, .inl ⟨rfl, by simp, S.tr⟩⟩
 ·replace hb := Nrm.nrm hb
  refine wp_skip ?_
  refine zAb hK ?_; clear hK K
  iterate 2 (refine wp_seq_k ?_; intro K hK)
  have hs : s.off = false := by cases h : s.off; rfl; simp [h] at hb
  have hf : f = false := by cases h : f; rfl; simp [hs, h] at hb
  subst hf
  refine zAa ?_
  iterate 3 (refine zd E ?_; clear E a; intro a E)
  refine zAg E rfl rfl dZ rfl Tryz.func82 rfl yZ rfl (has_ret d p gp gn _ false at_ many hn ha _ (S.hp.sel sZ)) ?_
  rintro v18 w ⟨rfl, hT⟩; clear E a; intro a E
  have S := S.call1 sZ hT
  refine zd E ?_; clear E a; intro a E
  refine wpList_nil ?_
  refine zAb hK ?_; clear hK K
  refine zAs E rfl (fun hb => ?_) (fun hb => ?_)
  ·replace hb := Nrm.nrm hb
   have hno : ¬ (0 ≤ at_ ∧ 0 ≤ many ∧ at_ ≤ (nw.length / 128 : Nat) ∧ many ≤ (nw.length / 128 : Nat) - at_) := (by intro q; rw [decide_eq_true q] at hb; simp at hb)
   refine wp_seq_k ?_; intro K hK
   refine zAa ?_
   iterate 2 (refine zd E ?_; clear E a; intro a E)
   refine wpList_nil ?_
   refine zAb hK ?_; clear hK K
   refine wp_ret ?_
   refine zBc ?_; clear hK K
   refine ret2 E rfl rfl rfl ?_
   exact ⟨_, rfl, .inr (.inr (.inl ⟨hs, rfl, hno, rfl, (S.front3 (A := [(p, _)]) pZ (B := [(d, _)]) pZ (C := [(gn, _)]) pZ).tr⟩))⟩
  ·replace hb := Nrm.nrm hb
   have hyes : 0 ≤ at_ ∧ 0 ≤ many ∧ at_ ≤ (nw.length / 128 : Nat) ∧ many ≤ (nw.length / 128 : Nat) - at_ := (by apply Decidable.byContradiction; intro q; rw [decide_eq_false q] at hb; simp at hb)
   refine wp_skip ?_
   refine zAb hK ?_; clear hK K
   refine wp_seq_k ?_; intro K hK
   obtain ⟨an, rfl⟩ : ∃ an : Nat, at_ = an := ⟨at_.toNat, by omega⟩
   obtain ⟨mn, rfl⟩ : ∃ mn : Nat, many = mn := ⟨many.toNat, by omega⟩
   have hfit : an * 128 + mn * 128 ≤ nw.length := by omega
   refine zAa ?_
   refine zd E ?_; clear E a; intro a E
   refine zp E (zCx E rfl rfl rfl (by first | exact zGa (y := 128) oZ | exact w_in oZ | exact rfl)) ?_; clear E a; intro a E
   refine zAf rfl (zCn (by' := 1) E S rfl rfl dZ rfl rfl rfl rfl rfl rfl rfl rfl rfl rfl rfl (by first | exact mkb oZ | exact mkb8 oZ | exact mkbn rfl oZ) (by simp only [maxLen]; omega) ?_); clear E S a; intro a w g22 E S
   refine zd E ?_; clear E a; intro a E
   refine wpList_nil ?_
   refine zAb hK ?_; clear hK K
   refine wp_seq_k ?_; intro K hK
   refine zAa ?_
   iterate 3 (refine zd E ?_; clear E a; intro a E)
   refine zp E (by first | exact zAc (q := 2) E rfl rfl rfl | exact zAd (q := 2) E rfl rfl rfl) ?_; clear E a; intro a E
   iterate 2 (refine zd E ?_; clear E a; intro a E)
   refine zp E (zCx E rfl rfl rfl (by first | exact zGa (y := 128) oZ | exact w_in oZ | exact rfl)) ?_; clear E a; intro a E
   refine zp E (zGw (lo := an * 128) (s := 1) E rfl rfl rfl rfl rfl rfl oZ) ?_; clear E a; intro a E
   obtain ⟨ad3, c3, he3, hc3, hR3⟩ := (zBn (g := gn) (T := 5) (xs := byt nw) (s := 1) (m := nw.length) (by rw [zAv]; omega) (zCq nw) oZ nw.length).tailc (n := an * 128) oZ (Nat.le_refl _)
   rw [Nat.mul_one, zEx] at hR3
   rw [he3] at E
   have hdl : (nw.drop (an * 128)).length = nw.length - an * 128 := List.length_drop
   refine zAf rfl (zHk E S rfl rfl dZ rfl rfl pZ (hR3.copySrc (S.stab.at mZ) rfl) rfl rfl (by rw [List.length_replicate]; omega) ?_); clear E S a; intro a w E S
   have hcp : (List.replicate (mn * 128) (Value.int .u8 0)).take 0 ++ (byt (nw.drop (an * 128))).take (min (nw.length - an * 128) (mn * 128)) ++ (List.replicate (mn * 128) (Value.int .u8 0)).drop (0 + min (nw.length - an * 128) (mn * 128)) = byt ((nw.drop (an * 128)).take (mn * 128)) := by
    have h := copy_head (l := List.replicate (mn * 128) (Value.int .u8 0)) (ys := byt (nw.drop (an * 128))) (k := mn * 128) (by simp) (by rw [zAv]; omega)
    rw [zAv, hdl] at h
    rw [h, zEl]
   rw [hcp] at S
   refine wpList_nil ?_
   refine zAb hK ?_; clear hK K
   refine wp_seq_k ?_; intro K hK
   replace E := E.keep (e' := [(6, _), (7, _), (9, _)]) (kE3 rfl rfl rfl)
   refine zAa ?_
   iterate 3 (refine zd E ?_; clear E a; intro a E)
   refine wpList_nil ?_
   refine zAb hK ?_; clear hK K
   refine wp_ret ?_
   refine ret2 E rfl rfl rfl ?_
   exact ⟨_, rfl, .inr (.inr (.inr ⟨hs, rfl, hyes, g22, by simp, (S.front4 (A := [(g22, _)]) pZ (B := [(p, _)]) pZ (C := [(d, _)]) pZ (D := [(gn, _)]) pZ).tr⟩))⟩
end Go.Proofs.YtpjidiaekifmbaaGreatDoor
namespace Go.Sl
abbrev wl (ws : List Wt) : List Value := ws.flatMap Wt.lay
theorem zFe (ws : List Wt) : (wl ws).length = ws.length * 130 := flat_len Wt.lay_len
theorem wl_one (ws : List Wt) : ∀ u ∈ wl ws, u.oneCell' = true := fun u hu => by
 obtain ⟨x, _, hx⟩ := List.mem_flatMap.1 hu
 exact x.lay_one u hx
def outW (d : Nat) (ws : List Wt) : List Wt := ws.filter fun x => decide (x.d ≠ d)
theorem outW_take (d : Nat) (ws : List Wt) {i : Nat} (hi : i < ws.length) : outW d (ws.take (i + 1)) = outW d (ws.take i) ++ (if ws[i].d ≠ d then [ws[i]] else []) := by
 rw [← List.take_append_getElem hi, outW, outW, List.filter_append]
 congr 1
 simp only [List.filter_cons, List.filter_nil]
 by_cases h : ws[i].d ≠ d <;> simp [h]
theorem zIp (d : Nat) (ws : List Wt) : (outW d ws).length ≤ ws.length := List.length_filter_le _ _
structure Mv (ws : List Wt) (r L : List Value) (ks : List Wt) (i c : Nat) : Prop where
 len : L.length = c * 130
 hd : L.take (ks.length * 130) = wl ks
 tl : L.drop (i * 130) = wl (ws.drop i) ++ r
theorem Mv.cell {ws : List Wt} {r L : List Value} {ks : List Wt} {i c : Nat} (h : Mv ws r L ks i c) (hi : i < ws.length) : (L.drop (i * 130)).take 130 = ws[i].lay := by
 rw [h.tl, List.drop_eq_getElem_cons hi, wl, List.flatMap_cons, List.append_assoc, List.take_left' (Wt.lay_len _)]
theorem Mv.skip {ws : List Wt} {r L : List Value} {ks : List Wt} {i c : Nat} (h : Mv ws r L ks i c) (hi : i < ws.length) : Mv ws r L ks (i + 1) c := by
 refine ⟨h.len, h.hd, ?_⟩
 rw [Nat.add_mul, Nat.one_mul, ← List.drop_drop, h.tl, List.drop_eq_getElem_cons hi, wl, List.flatMap_cons, List.append_assoc, List.drop_left' (Wt.lay_len _)]
theorem Mv.put {ws : List Wt} {r L : List Value} {ks : List Wt} {i c : Nat} (h : Mv ws r L ks i c) (hi : i < ws.length) (hk : ks.length ≤ i) (hc : i + 1 ≤ c) :
  Mv ws r (L.take (ks.length * 130) ++ ws[i].lay ++ L.drop ((ks.length + 1) * 130)) (ks ++ [ws[i]]) (i + 1) c := by
 have hl := h.len
 have hw := Wt.lay_len ws[i]
 have h2 := (h.skip hi).tl
 have hA : (L.take (ks.length * 130) ++ ws[i].lay).length = (ks.length + 1) * 130 := by rw [List.length_append, List.length_take, hw]; omega
 refine ⟨?_, ?_, ?_⟩
 ·rw [List.length_append, hA, List.length_drop]; omega
 ·rw [List.length_append, List.length_singleton, List.take_left' hA, h.hd, wl, wl, List.flatMap_append]; simp
 ·rw [show (i + 1) * 130 = (ks.length + 1) * 130 + ((i + 1) * 130 - (ks.length + 1) * 130) by omega, ← List.drop_drop, List.drop_left' hA, List.drop_drop, show (ks.length + 1) * 130 + ((i + 1) * 130 - (ks.length + 1) * 130) = (i + 1) * 130 by omega, h2]
def Bks (As : List zAj) (b : Nat) : Prop := ∃ C ∈ As, ∃ l T, (b, cel l T) ∈ C
theorem Bks.bk {As : List zAj} {b : Nat} {w : World} (h : Bks As b) (S : Stab As w) : Bk w b := by
 obtain ⟨C, hC, l, T, hm⟩ := h
 exact ⟨l, T, S C hC _ hm⟩
theorem Bks.sub {As Bs : List zAj} {b : Nat} (h : Bks As b) (k : ∀ C ∈ As, C ∈ Bs) : Bks Bs b := by
 obtain ⟨C, hC, r⟩ := h; exact ⟨C, k C hC, r⟩
end Go.Sl
namespace Go.Proofs.YtpjidiaekifmbaaGreatDoor
open Go.Sl
set_option maxRecDepth 10000
theorem drop_nil (p : Nat) (s : Pw) (vd : Value) (d : Nat) (w0 : World) (H : Hp w0 [[(p, pcl s (.slice none 0 0) vd)]]) :
  Ret Tryz.prog 52 #[ptr p, ptr d] w0 fun _ w' => Trs w0 w' [[(p, pcl s (.slice none 0 0) vd)]] [[(p, pcl s (.slice none 0 0) vd)]] := by
 have S := St.begin H
 refine zBx 34 Tryz.func52 rfl rfl dZ ?_; intro a E
 refine wp_seq_k ?_; intro K hK
 refine zAa ?_
 iterate 2 (refine zd E ?_; clear E a; intro a E)
 refine zp E (by first | exact zAc (q := 0) E rfl rfl rfl | exact zAd (q := 0) E rfl rfl rfl) ?_; clear E a; intro a E
 refine zd E ?_; clear E a; intro a E
 refine zp E (zIn (s := 130) (hi := 0) E rfl rfl rfl rfl rfl rfl oZ) ?_; clear E a; intro a E
 refine zd E ?_; clear E a; intro a E
 refine wpList_nil ?_
 refine zAb hK ?_; clear hK K
 iterate 2 (refine wp_seq_k ?_; intro K hK)
 refine zAa ?_
 iterate 2 (refine zd E ?_; clear E a; intro a E)
 refine zp E (by first | exact zAc (q := 0) E rfl rfl rfl | exact zAd (q := 0) E rfl rfl rfl) ?_; clear E a; intro a E
 iterate 3 (refine zd E ?_; clear E a; intro a E)
 refine wpList_nil ?_
 refine zAb hK ?_; clear hK K
 refine wp_block ?_
 refine wp_loop_ghost (fun (m : Nat) (a : Act) (w' : World) => m = 0 ∧ St w0 [[(p, pcl s (.slice none 0 0) vd)]] w' [[(p, pcl s (.slice none 0 0) vd)]] ∧ Fr a 34 [(0, ptr p), (4, .slice none 0 0), (16, .int .i64 0), (17, .int .i64 0)]) (0) ?_ ?_
 ·exact ⟨rfl, S, E.keep (kE4 rfl rfl rfl rfl)⟩
 clear E; clear a; (try clear S); rintro m a w ⟨rfl, S, E⟩
 refine wp_seq_k ?_; intro K hK
 refine zAa ?_
 refine zd E ?_; clear E a; intro a E
 refine wpList_nil ?_
 refine zAb hK ?_; clear hK K
 refine wp_seq_k ?_; intro K hK
 refine zAs E rfl (fun hb => ?_) (fun hb => ?_)
 ·replace hb := Nrm.nrm hb
  exfalso; omega
 ·replace hb := Nrm.nrm hb
  refine wp_exit ?_
  refine zAl ?_; clear hK K
  refine zAl ?_
  refine zBi ?_
  refine zAb hK ?_; clear hK K
  refine zAa ?_
  iterate 3 (refine zd E ?_; clear E a; intro a E)
  refine zp E (by first | exact zAc (q := 0) E rfl rfl rfl | exact zAd (q := 0) E rfl rfl rfl) ?_; clear E a; intro a E
  refine zAf rfl (zBa E S rfl rfl rfl rfl rfl rfl pZ (by first | exact Nat.le_of_ble_eq_true rfl | (simp; done) | (simp; omega)) ?_); clear E S a; intro a w E S; try dsimp only [List.set] at S
  refine wpList_nil ?_
  refine end0 E rfl ?_
  exact ⟨_, rfl, S.tr⟩
theorem dropp_blk (p : Nat) (s : Pw) (vd : Value) (ws : List Wt) (g c : Nat) (r : List Value) (hc : ws.length ≤ c) (hcm : c ≤ maxLen) (hlen : (wl ws ++ r).length = c * 130) (d : Nat) (As : List zAj) (hB : ∀ x ∈ ws, x.d = d ∨ (Bks As x.d ∧ Bks As d)) (w0 : World)
    (H : Hp w0 ([(p, pcl s (.slice (some ⟨g, 0, none⟩) ws.length c) vd)] :: [(g, cel (wl ws ++ r) 131)] :: As)) :
    Ret Tryz.prog 52 #[ptr p, ptr d] w0 fun _ w' => ∃ L, L.length = c * 130 ∧ L.take ((outW d ws).length * 130) = wl (outW d ws) ∧ Trs w0 w' ([(p, pcl s (.slice (some ⟨g, 0, none⟩) ws.length c) vd)] :: [(g, cel (wl ws ++ r) 131)] :: As) ([(p, pcl s (.slice (some ⟨g, 0, none⟩) (outW d ws).length c) vd)] :: [(g, cel L 131)] :: As) := by
  have S := St.begin H
  simp only [maxLen] at hcm
  refine zBx 34 Tryz.func52 rfl rfl dZ ?_; intro a E
  refine wp_seq_k ?_; intro K hK
  refine zAa ?_
  iterate 2 (refine zd E ?_; clear E a; intro a E)
  refine zp E (by first | exact zAc (q := 0) E rfl rfl rfl | exact zAd (q := 0) E rfl rfl rfl) ?_; clear E a; intro a E
  refine zd E ?_; clear E a; intro a E
  refine zp E (zIn (s := 130) (hi := 0) E rfl rfl rfl rfl rfl rfl oZ) ?_; clear E a; intro a E
  rw [show sliced (some ⟨g, 0, none⟩) 0 0 c 130 = .slice (some ⟨g, 0, none⟩) 0 c by unfold sliced; by_cases h : c = 0 <;> simp [h, Addr.add]] at E
  refine zd E ?_; clear E a; intro a E
  refine wpList_nil ?_
  refine zAb hK ?_; clear hK K
  iterate 2 (refine wp_seq_k ?_; intro K hK)
  refine zAa ?_
  iterate 2 (refine zd E ?_; clear E a; intro a E)
  refine zp E (by first | exact zAc (q := 0) E rfl rfl rfl | exact zAd (q := 0) E rfl rfl rfl) ?_; clear E a; intro a E
  iterate 3 (refine zd E ?_; clear E a; intro a E)
  refine wpList_nil ?_
  refine zAb hK ?_; clear hK K
  refine wp_block ?_
  refine wp_loop_ghost (fun (m : Nat) (a : Act) (w' : World) => ∃ (i : Nat) (L : List Value), m = ws.length - i ∧ i ≤ ws.length ∧ Mv ws r L (outW d (ws.take i)) i c ∧ St w0 ([(p, pcl s (.slice (some ⟨g, 0, none⟩) ws.length c) vd)] :: [(g, cel (wl ws ++ r) 131)] :: As) w' ([(p, pcl s (.slice (some ⟨g, 0, none⟩) ws.length c) vd)] :: [(g, cel L 131)] :: As) ∧ Fr a 34 [(0, ptr p), (1, ptr d), (4, .slice (some ⟨g, 0, none⟩) (outW d (ws.take i)).length c), (15, .slice (some ⟨g, 0, none⟩) ws.length c), (16, .int .i64 ws.length), (17, .int .i64 i)]) (ws.length - 0) ?_ ?_
  · exact ⟨0, wl ws ++ r, rfl, by omega, ⟨hlen, by simp [outW], by simp⟩, S, E.keep (kE6 rfl rfl rfl rfl rfl rfl)⟩
  clear E; clear a; (try clear S); rintro m a w ⟨i, L, rfl, hi, hM, S, E⟩
  refine wp_seq_k ?_; intro K hK
  refine zAa ?_
  refine zd E ?_; clear E a; intro a E
  refine wpList_nil ?_
  refine zAb hK ?_; clear hK K
  refine wp_seq_k ?_; intro K hK
  refine zAs E rfl (fun hb => ?_) (fun hb => ?_)
  · replace hb := Nrm.nrm hb
    refine wp_skip ?_
    refine zAb hK ?_; clear hK K
    refine wp_seq_k ?_; intro K hK
    refine wp_block ?_
    refine wp_seq_k ?_; intro K hK
    have hil : i < ws.length := by omega
    have hkl : (outW d (ws.take i)).length ≤ i := Nat.le_trans (zIp d _) (by rw [List.length_take]; omega)
    have hst := outW_take d ws hil
    have hbk := hB _ (List.getElem_mem hil)
    obtain ⟨x, hx⟩ : ∃ x, x = ws[i]'hil := ⟨_, rfl⟩
    have hcell := hM.cell hil
    have hput := hM.put hil hkl oZ
    rw [← hx] at hst hbk hcell hput
    refine zAa ?_
    refine zp E (zAz (i := i) (s := 130) E rfl rfl rfl rfl rfl rfl oZ) ?_; clear E a; intro a E
    refine zp E (zBf (vs := x.lay) E rfl rfl rfl (S.get (show List.Perm _ ([(g, _)] :: _) from pZ)) (Wt.lay_len x) (by rw [Wt.lay_len, Nat.zero_add]; exact hcell)) ?_; clear E a; intro a E
    refine zAf rfl (zBs E S rfl rfl dZ rfl rfl rfl ?_); clear E S a; intro a w b6 E S
    refine zAf rfl (zEq E S rfl rfl rfl rfl x.lay_one rfl (Wt.lay_len x) pZ (by rw [Wt.lay_len]; rfl) ?_); clear E S a; intro a w E S
    refine wpList_nil ?_
    refine zAb hK ?_; clear hK K
    refine wp_seq_k ?_; intro K hK
    refine zAa ?_
    refine zp E (by first | exact zAc (q := 0) E rfl rfl rfl | exact zAd (q := 0) E rfl rfl rfl) ?_; clear E a; intro a E
    refine zp E (zAo E rfl rfl rfl (zBv (S.get (show List.Perm _ ([(b6, _)] :: _) from pZ)) (v := ptr x.d) rfl)) ?_; clear E a; intro a E
    refine zd E ?_; clear E a; intro a E
    refine zp E (rn_neq_ptrs (i := x.d) (j := d) E rfl rfl rfl rfl rfl dZ (hbk.imp_right fun h => ⟨(h.1.sub (fun _ h => by repeat (first | exact h | apply List.Mem.tail))).bk S.stab, (h.2.sub (fun _ h => by repeat (first | exact h | apply List.Mem.tail))).bk S.stab⟩)) ?_; clear E a; intro a E
    refine wpList_nil ?_
    refine zAb hK ?_; clear hK K
    refine zAs E rfl (fun hb => ?_) (fun hb => ?_)
    · replace hb := Nrm.nrm hb
      have hne : x.d ≠ d := (by simpa using hb)
      refine zAa ?_
      refine zd E ?_; clear E a; intro a E
      refine zp E (zDu E rfl rfl rfl (S.get (show List.Perm _ ([(b6, _)] :: _) from pZ)) (Wt.lay_len x)) ?_; clear E a; intro a E
      refine zAf rfl (zBm (cells := x.lay) E S rfl rfl dZ rfl rfl rfl rfl rfl dZ (fill_one yZ ((Wt.lay_len x).trans yZ)) ?_); clear E S a; intro a w b27 E S
      refine zAf rfl (wp_append_in E S rfl rfl dZ rfl rfl pZ oZ (by rw [hM.len]; omega) ((zBn (g := b27) (T := 131) (xs := x.lay) (s := 130) (m := 1) (Wt.lay_len x) x.lay_one oZ 1).src (S.stab.at mZ) rfl) rfl rfl rfl ?_); clear E S a; intro a w E S
      refine zd E ?_; clear E a; intro a E
      refine wpList_nil ?_
      refine zAq ?_
      refine zAb hK ?_; clear hK K
      refine zAa ?_
      refine zp E (zAy E rfl rfl rfl (by first | exact zBq (y := 1) oZ | exact w_in oZ | exact zBj oZ | exact rfl)) ?_; clear E a; intro a E
      refine zd E ?_; clear E a; intro a E
      refine wpList_nil ?_
      refine zAn ?_
      first
      | (rw [if_pos hne] at hst
         have hl : (outW d (ws.take (i + 1))).length = (outW d (ws.take i)).length + 1 := by rw [hst]; simp
         rw [← hl] at E
         exact ⟨_, by omega, i + 1, _, rfl, by omega, by rw [hst]; exact hput, ((S.del (A := [(b27, _)]) pZ).del (A := [(b6, _)]) pZ).front2 (A := [(p, _)]) pZ (B := [(g, _)]) pZ, E.keep (kE6 rfl rfl rfl rfl rfl rfl)⟩)
      | (rw [if_neg (fun q => q heq), List.append_nil] at hst
         rw [← hst] at E
         exact ⟨_, by omega, i + 1, _, rfl, by omega, by rw [hst]; exact hM.skip hil, (S.del (A := [(b6, _)]) pZ).front2 (A := [(p, _)]) pZ (B := [(g, _)]) pZ, E.keep (kE6 rfl rfl rfl rfl rfl rfl)⟩)
    · replace hb := Nrm.nrm hb
      have heq : x.d = d := (by simpa using hb)
      refine wp_skip ?_
      refine zAq ?_
      refine zAb hK ?_; clear hK K
      refine zAa ?_
      refine zp E (zAy E rfl rfl rfl (by first | exact zBq (y := 1) oZ | exact w_in oZ | exact zBj oZ | exact rfl)) ?_; clear E a; intro a E
      refine zd E ?_; clear E a; intro a E
      refine wpList_nil ?_
      refine zAn ?_
      first
      | (rw [if_pos hne] at hst
         have hl : (outW d (ws.take (i + 1))).length = (outW d (ws.take i)).length + 1 := by rw [hst]; simp
         rw [← hl] at E
         exact ⟨_, by omega, i + 1, _, rfl, by omega, by rw [hst]; exact hput, ((S.del (A := [(b27, _)]) pZ).del (A := [(b6, _)]) pZ).front2 (A := [(p, _)]) pZ (B := [(g, _)]) pZ, E.keep (kE6 rfl rfl rfl rfl rfl rfl)⟩)
      | (rw [if_neg (fun q => q heq), List.append_nil] at hst
         rw [← hst] at E
         exact ⟨_, by omega, i + 1, _, rfl, by omega, by rw [hst]; exact hM.skip hil, (S.del (A := [(b6, _)]) pZ).front2 (A := [(p, _)]) pZ (B := [(g, _)]) pZ, E.keep (kE6 rfl rfl rfl rfl rfl rfl)⟩)
  · replace hb := Nrm.nrm hb
    refine wp_exit ?_
    refine zAl ?_; clear hK K
    refine zAl ?_
    refine zBi ?_
    refine zAb hK ?_; clear hK K
    refine zAa ?_
    iterate 3 (refine zd E ?_; clear E a; intro a E)
    refine zp E (by first | exact zAc (q := 0) E rfl rfl rfl | exact zAd (q := 0) E rfl rfl rfl) ?_; clear E a; intro a E
    refine zAf rfl (zBa E S rfl rfl rfl rfl rfl rfl pZ (by first | exact Nat.le_of_ble_eq_true rfl | (simp; done) | (simp; omega)) ?_); clear E S a; intro a w E S; try dsimp only [List.set] at S
    refine wpList_nil ?_
    refine end0 E rfl ?_
    obtain rfl : i = ws.length := by omega
    rw [List.take_length] at hM S
    exact ⟨_, rfl, L, hM.len, hM.hd, S.tr⟩
end Go.Proofs.YtpjidiaekifmbaaGreatDoor
namespace Go.Sl
theorem copy_whole {l ys : List Value} {n : Nat} (hl : l.length = n) (hy : ys.length = n) : l.take 0 ++ ys.take (min n n) ++ l.drop (0 + min n n) = ys := by
 rw [Nat.min_self, Nat.zero_add, List.take_zero, List.nil_append, ← hl, List.drop_length, List.append_nil, hl, ← hy, List.take_length]
theorem wcopy (d a : Nat) (b : List UInt8) {i : Nat} (h : 128 * i + 128 ≤ b.length) :
  ([ptr d, .int .i64 a] ++ List.replicate 128 (.int .u8 0) : List Value).take 2 ++ (byt (b.drop (i * 128))).take (min (b.length - i * 128) 128) ++ ([ptr d, .int .i64 a] ++ List.replicate 128 (.int .u8 0) : List Value).drop (2 + min (b.length - i * 128) 128) = (mkW d a (secB b i)).lay := by
 rw [Nat.min_eq_right oZ, show ([ptr d, .int .i64 a] ++ List.replicate 128 (.int .u8 0) : List Value).take 2 = [ptr d, .int .i64 a] from rfl, zEl, show ([ptr d, .int .i64 a] ++ List.replicate 128 (.int .u8 0) : List Value).drop (2 + 128) = [] from rfl, List.append_nil]
 show _ = [ptr d, .int .i64 a] ++ byt (pad (secB b i))
 rw [pad_id (zCf h), secB, Nat.mul_comm i 128]
end Go.Sl
namespace Go.Proofs.YtpjidiaekifmbaaGreatDoor
open Go.Sl
set_option maxRecDepth 10000
theorem drop_ret (p : Nat) (s : Pw) (vw vd : Value) (ws : List Wt) (Cw : zAj) (hCw : Buf Cw 131 130 vw ws.length (wl ws)) (d : Nat) (As : List zAj) (hB : ∀ x ∈ ws, x.d = d ∨ (Bks As x.d ∧ Bks As d)) (w0 : World)
  (H : Hp w0 ([(p, pcl s vw vd)] :: Cw :: As)) :
  Ret Tryz.prog 52 #[ptr p, ptr d] w0 fun _ w' => ∃ vw' Cw', Buf Cw' 131 130 vw' (outW d ws).length (wl (outW d ws)) ∧ Trs w0 w' ([(p, pcl s vw vd)] :: Cw :: As) ([(p, pcl s vw' vd)] :: Cw' :: As) := by
 rcases hCw.2.2 with ⟨rfl, h0, rfl⟩ | ⟨g, c, r, rfl, rfl, hc, hcm, hcs⟩
 ·obtain rfl := List.eq_nil_of_length_eq_zero h0
  refine (drop_nil p s vd d w0 (H.sel (zCj pk1 sZ))).mono fun v w' hT => ?_
  have S := (St.begin H).call1 (zCj pk1 sZ) hT
  exact ⟨_, [], Buf.nil _ _, S.tr⟩
 ·refine (dropp_blk p s vd ws g c r hc hcm (by rw [List.length_append]; omega) d As hB w0 H).mono fun v w' ⟨L, h1, h2, hT⟩ => ?_
  refine ⟨_, _, ?_, hT⟩
  have hL : L = wl (outW d ws) ++ L.drop ((outW d ws).length * 130) := by rw [← h2, List.take_append_drop]
  have hle := zIp d ws
  exact ⟨zFe _, wl_one _, .inr ⟨g, c, L.drop ((outW d ws).length * 130), rfl, by rw [← hL], by omega, hcm, by rw [zFe, List.length_drop]; omega⟩⟩
theorem flush_ret (d p gp gn n : Nat) (f : Bool) (s : Pw) (vw vd : Value) (pl nw : List UInt8) (hpl : pl.length = n) (hnw : nw.length = n) (hn : n ≤ 1048576) (ws : List Wt) (Cw : zAj) (hCw : Buf Cw 131 130 vw ws.length (wl ws)) (As : List zAj) (hB : ∀ x ∈ ws, x.d = d ∨ Bks As x.d) (w0 : World)
  (H : Hp w0 ([(p, pcl s vw vd)] :: Cw :: [(d, dcl p gp gn n f)] :: [(gp, cel (byt pl) 5)] :: [(gn, cel (byt nw) 5)] :: As)) :
  Ret Tryz.prog 65 #[ptr d] w0 fun u w' =>
   ((s.off = true ∨ f = true) ∧ u = .int .i64 (if s.off then 5 else 30) ∧ Trs w0 w' ([(p, pcl s vw vd)] :: Cw :: [(d, dcl p gp gn n f)] :: [(gp, cel (byt pl) 5)] :: [(gn, cel (byt nw) 5)] :: As) ([(p, pcl s vw vd)] :: Cw :: [(d, dcl p gp gn n f)] :: [(gp, cel (byt pl) 5)] :: [(gn, cel (byt nw) 5)] :: As)) ∨
   (s.off = false ∧ f = false ∧ u = .int .i64 0 ∧ ∃ vw' Cw', Buf Cw' 131 130 vw' (outW d ws).length (wl (outW d ws)) ∧
    Trs w0 w' ([(p, pcl s vw vd)] :: Cw :: [(d, dcl p gp gn n f)] :: [(gp, cel (byt pl) 5)] :: [(gn, cel (byt nw) 5)] :: As) ([(p, pcl s vw' vd)] :: Cw' :: [(d, dcl p gp gn n f)] :: [(gp, cel (byt nw) 5)] :: [(gn, cel (byt nw) 5)] :: As)) := by
 have S := St.begin H
 refine zCh 24 Tryz.func65 rfl rfl dZ ?_; intro a E
 refine wp_seq_k ?_; intro K hK
 refine zAa ?_
 refine zd E ?_; clear E a; intro a E
 refine wpList_nil ?_
 refine zAb hK ?_; clear hK K
 iterate 2 (refine wp_seq_k ?_; intro K hK)
 refine zAa ?_
 refine zd E ?_; clear E a; intro a E
 refine zAg E rfl rfl dZ rfl Tryz.func81 rfl yZ rfl (down_ret d p gp gn _ f s vw vd _ (S.hp.sel sZ)) ?_
 rintro v5 w ⟨rfl, hT⟩; clear E a; intro a E
 have S := (S.call2 sZ hT).front2 (A := [(p, _)]) pZ (B := Cw) pZ
 refine zd E ?_; clear E a; intro a E
 refine wpList_nil ?_
 refine zAb hK ?_; clear hK K
 refine wp_seq_k ?_; intro K hK
 refine zAa ?_
 iterate 2 (refine zd E ?_; clear E a; intro a E)
 refine wpList_nil ?_
 refine zAb hK ?_; clear hK K
 refine zAs E rfl (fun hb => ?_) (fun hb => ?_)
 ·replace hb := Nrm.nrm hb
  refine wp_seq_k ?_; intro K hK
  refine zAa ?_
  iterate 2 (refine zd E ?_; clear E a; intro a E)
  refine wpList_nil ?_
  refine zAb hK ?_; clear hK K
  refine wp_ret ?_
  refine zBc ?_; clear hK K
  refine ret1 E rfl rfl ?_
  exact ⟨_, rfl, .inl (by cases hs : s.off <;> cases hf : f <;> simp_all; all_goals exact S.tr)⟩
 ·replace hb := Nrm.nrm hb
  refine wp_skip ?_
  refine zAb hK ?_; clear hK K
  refine wp_seq_k ?_; intro K hK
  have hs : s.off = false := by cases h : s.off; rfl; simp [h] at hb
  have hf : f = false := by cases h : f; rfl; simp [hs, h] at hb
  subst hf
  have hR := zBn (g := gn) (T := 5) (xs := byt nw) (s := 1) (m := n) (by rw [zAv]; omega) (zCq nw) oZ n
  refine zAw S (.ofL [(0, 0), (1, 0), (2, 0), (3, 0), (4, 0), (5, 0), (6, 0), (7, 0), (8, 3)]) yZ yZ ?_
  clear S; intro w S
  iterate 2 (refine zmd E ?_; clear E a; intro a E)
  refine zm E rfl (fun w h => by first | exact zAc (q := 1) E rfl rfl rfl | exact zAd (q := 1) E rfl rfl rfl) ?_; clear E a; intro a E
  iterate 3 (refine zmd E ?_; clear E a; intro a E)
  refine zm E rfl (fun w h => by first | exact zAc (q := 2) E rfl rfl rfl | exact zAd (q := 2) E rfl rfl rfl) ?_; clear E a; intro a E
  refine zmd E ?_; clear E a; intro a E
  refine zCd rfl rfl (zHk E S rfl rfl dZ rfl rfl pZ (hR.copySrc (S.stab.at mZ) rfl) rfl rfl (by rw [zAv]; omega) ?_); clear E S a; intro a w E S
  rw [copy_whole (by rw [zAv]; exact hpl) (by rw [zAv]; exact hnw)] at S
  refine zBd ?_
  refine zAb hK ?_; clear hK K
  refine wp_seq_k ?_; intro K hK
  refine zAa ?_
  iterate 2 (refine zd E ?_; clear E a; intro a E)
  refine zp E (by first | exact zAc (q := 0) E rfl rfl rfl | exact zAd (q := 0) E rfl rfl rfl) ?_; clear E a; intro a E
  iterate 2 (refine zd E ?_; clear E a; intro a E)
  refine zAg E rfl rfl dZ rfl Tryz.func52 rfl yZ rfl (drop_ret p s vw vd ws Cw hCw d ([(d, dcl p gp gn n false)] :: [(gp, cel (byt nw) 5)] :: [(gn, cel (byt nw) 5)] :: As) (fun x hx => (hB x hx).imp_right fun h => ⟨h.sub (fun _ h => by repeat (first | exact h | apply List.Mem.tail)), ⟨_, List.Mem.head _, _, _, List.Mem.head _⟩⟩) _ (S.front5 (A := [(p, _)]) pZ (B := Cw) pZ (C := [(d, _)]) pZ (D := [(gp, _)]) pZ (F := [(gn, _)]) pZ).hp) ?_
  rintro v23 w ⟨vw', Cw', hCw', hT⟩; clear E a; intro a E
  have S := (S.front5 (A := [(p, _)]) pZ (B := Cw) pZ (C := [(d, _)]) pZ (D := [(gp, _)]) pZ (F := [(gn, _)]) pZ).all hT
  refine wpList_nil ?_
  refine zAb hK ?_; clear hK K
  refine wp_seq_k ?_; intro K hK
  refine zAa ?_
  refine zd E ?_; clear E a; intro a E
  refine wpList_nil ?_
  refine zAb hK ?_; clear hK K
  refine wp_ret ?_
  refine ret1 E rfl rfl ?_
  exact ⟨_, rfl, .inr ⟨hs, rfl, rfl, vw', Cw', hCw', S.tr⟩⟩
theorem dwrite_ret (d p gn gp n : Nat) (f : Bool) (s : Pw) (vw vd : Value) (nw : List UInt8) (hnw : nw.length = n) (hn : n ≤ 1048576) (ws : List Wt) (hws : ws.length + 8192 ≤ 244335861110) (hwr : s.wr ≤ 1000000000000000000) (hlf : s.left ≤ 9223372036854775807) (Cw : zAj) (hCw : Buf Cw 131 130 vw ws.length (wl ws))
    (at_ : Int) (ha : -9223372036854775808 ≤ at_ ∧ at_ ≤ 9223372036854775807) (v : Value) (b : List UInt8) (D : zAj) (hD : Rd D 1 v b.length (byt b)) (hcap : ∃ ad c, v = .slice ad b.length c ∧ b.length ≤ c) (As : List zAj) (hDA : D ∈ As) (w0 : World)
    (H : Hp w0 ([(p, pcl s vw vd)] :: Cw :: [(d, dcl p gp gn n f)] :: [(gn, cel (byt nw) 5)] :: As)) :
    Ret Tryz.prog 61 #[ptr d, .int .i64 at_, v] w0 fun u w' => ∃ vw' Cw', u = .int .i64 (wrS d n at_ b s f nw ws).2.2.2 ∧ Buf Cw' 131 130 vw' (wrS d n at_ b s f nw ws).2.2.1.length (wl (wrS d n at_ b s f nw ws).2.2.1) ∧ (wrS d n at_ b s f nw ws).2.1.length = n ∧
      Trs w0 w' ([(p, pcl s vw vd)] :: Cw :: [(d, dcl p gp gn n f)] :: [(gn, cel (byt nw) 5)] :: As) ([(p, pcl (wrS d n at_ b s f nw ws).1 vw' vd)] :: Cw' :: [(d, dcl p gp gn n f)] :: [(gn, cel (byt (wrS d n at_ b s f nw ws).2.1) 5)] :: As) := by
  have S := St.begin H
  obtain ⟨ad, c, rfl, hc⟩ := hcap
  have hbl := hD.2.2.1
  simp only [maxLen] at hbl
  obtain ⟨fin, hfin⟩ : ∃ fin, fin = wrS d n at_ b s f nw ws := ⟨_, rfl⟩
  rw [← hfin]
  refine zDi 104 Tryz.func61 rfl rfl dZ ?_; intro a E
  refine wp_seq_k ?_; intro K hK
  refine zAa ?_
  refine zd E ?_; clear E a; intro a E
  refine wpList_nil ?_
  refine zAb hK ?_; clear hK K
  iterate 2 (refine wp_seq_k ?_; intro K hK)
  refine zAa ?_
  refine zd E ?_; clear E a; intro a E
  refine zAg E rfl rfl dZ rfl Tryz.func81 rfl yZ rfl (down_ret d p gp gn _ f s vw vd _ (S.hp.sel sZ)) ?_
  rintro v12 w ⟨rfl, hT⟩; clear E a; intro a E
  have S := (S.call2 sZ hT).front2 (A := [(p, _)]) pZ (B := Cw) pZ
  refine zd E ?_; clear E a; intro a E
  refine wpList_nil ?_
  refine zAb hK ?_; clear hK K
  refine wp_seq_k ?_; intro K hK
  refine zAa ?_
  iterate 2 (refine zd E ?_; clear E a; intro a E)
  refine wpList_nil ?_
  refine zAb hK ?_; clear hK K
  refine zAs E rfl (fun hb => ?_) (fun hb => ?_)
  · replace hb := Nrm.nrm hb
    refine wp_seq_k ?_; intro K hK
    refine zAa ?_
    iterate 2 (refine zd E ?_; clear E a; intro a E)
    refine wpList_nil ?_
    refine zAb hK ?_; clear hK K
    refine wp_ret ?_
    refine zBc ?_; clear hK K
    refine ret1 E rfl rfl ?_
    have hv : fin = (s, nw, ws, if s.off then 5 else 30) := by rw [hfin]; unfold wrS; cases hs : s.off <;> cases hf : f <;> simp_all
    have hvv : (if s.off = true then (5 : Int) else if f = true then 30 else 0) = if s.off then 5 else 30 := by cases hs : s.off <;> cases hf : f <;> simp_all
    exact ⟨_, rfl, vw, Cw, by rw [hv, hvv], by rw [hv]; exact hCw, by rw [hv]; exact hnw, by rw [hv]; exact S.tr⟩
  · replace hb := Nrm.nrm hb
    refine wp_skip ?_
    refine zAb hK ?_; clear hK K
    iterate 2 (refine wp_seq_k ?_; intro K hK)
    have hs : s.off = false := by cases h : s.off; rfl; simp [h] at hb
    have hf : f = false := by cases h : f; rfl; simp [hs, h] at hb
    subst hf
    refine zAa ?_
    iterate 2 (refine zd E ?_; clear E a; intro a E)
    refine zp E (zGh E rfl rfl rfl dZ (by first | exact zLn (y := 128) | exact rfl)) ?_; clear E a; intro a E
    iterate 2 (refine zd E ?_; clear E a; intro a E)
    refine zAr E (t := 20) rfl (fun hb20 => ?_) (fun hb20 => ?_)
    · have hb20n := hb20; replace hb20n := Nrm.nrm hb20n
      iterate 7 (refine zn E hb20 ?_; clear E a; intro a E)
      refine zp E (zAi E rfl rfl hb20 rfl) ?_; clear E a; intro a E
      refine wpList_nil ?_
      refine zAb hK ?_; clear hK K
      refine zCk E rfl rfl ?_
      refine wp_seq_k ?_; intro K hK
      refine zAa ?_
      refine zd E ?_; clear E a; intro a E
      refine wpList_nil ?_
      refine zAb hK ?_; clear hK K
      refine wp_ret ?_
      refine zBc ?_; clear hK K
      refine ret1 E rfl rfl ?_
      have hno : ¬ zDy n at_ b := by
        intro q
        first
        | (have := q.1; omega)
        | (rw [decide_eq_true ⟨q.2.1, by omega, q.2.2.1, q.2.2.2⟩] at hb; simp at hb)
      have hv : fin = (s, nw, ws, 1) := by rw [hfin]; unfold wrS; rw [if_neg (by simp [hs]), if_neg (by simp), if_pos hno]
      exact ⟨_, rfl, vw, Cw, by rw [hv], by rw [hv]; exact hCw, by rw [hv]; exact hnw, by rw [hv]; exact (S.front4 (A := [(p, _)]) pZ (B := Cw) pZ (C := [(d, _)]) pZ (D := [(gn, _)]) pZ).tr⟩
    · have hb20n := hb20; replace hb20n := Nrm.nrm hb20n
      iterate 4 (refine zyd E hb20 ?_; clear E a; intro a E)
      refine zy E hb20 (zGg E rfl rfl rfl dZ (by first | exact zKb (y := 128) oZ | exact zHl (y := 128) oZ | exact rfl)) ?_; clear E a; intro a E
      refine zBy E rfl rfl rfl rfl hb20 ?_; refine zCe E rfl dZ rfl Tryz.func82 rfl yZ rfl (has_ret d p gp gn _ false at_ ((b.length / 128 : Nat) : Int) hn ha _ (S.hp.sel sZ)) ?_
      rintro v26 w ⟨rfl, hT⟩; clear E a; intro a E
      have S := S.call1 sZ hT
      refine zyd E hb20 ?_; clear E a; intro a E
      refine zp E (zAk E rfl rfl hb20 rfl) ?_; clear E a; intro a E
      refine wpList_nil ?_
      refine zAb hK ?_; clear hK K
      refine zAs E rfl (fun hb => ?_) (fun hb => ?_)
      · replace hb := Nrm.nrm hb
        refine wp_seq_k ?_; intro K hK
        refine zAa ?_
        refine zd E ?_; clear E a; intro a E
        refine wpList_nil ?_
        refine zAb hK ?_; clear hK K
        refine wp_ret ?_
        refine zBc ?_; clear hK K
        refine ret1 E rfl rfl ?_
        have hno : ¬ zDy n at_ b := by
          intro q
          first
          | (have := q.1; omega)
          | (rw [decide_eq_true ⟨q.2.1, by omega, q.2.2.1, q.2.2.2⟩] at hb; simp at hb)
        have hv : fin = (s, nw, ws, 1) := by rw [hfin]; unfold wrS; rw [if_neg (by simp [hs]), if_neg (by simp), if_pos hno]
        exact ⟨_, rfl, vw, Cw, by rw [hv], by rw [hv]; exact hCw, by rw [hv]; exact hnw, by rw [hv]; exact (S.front4 (A := [(p, _)]) pZ (B := Cw) pZ (C := [(d, _)]) pZ (D := [(gn, _)]) pZ).tr⟩
      · replace hb := Nrm.nrm hb
        refine wp_skip ?_
        refine zAb hK ?_; clear hK K
        iterate 2 (refine wp_seq_k ?_; intro K hK)
        have hmay : zDy n at_ b := ⟨by omega, Decidable.byContradiction fun q => (by rw [decide_eq_false (fun z => q ⟨z.1, z.2.2.1, z.2.2.2⟩)] at hb; simp at hb)⟩
        have hv : fin = wrN d at_.toNat b (b.length / 128) 0 s nw ws := by rw [hfin]; unfold wrS; rw [if_neg (by simp [hs]), if_neg (by simp), if_neg (fun q => q hmay)]
        obtain ⟨hm1, hm2, hm3, hm4⟩ := hmay
        obtain ⟨an, rfl⟩ : ∃ an : Nat, at_ = an := ⟨at_.toNat, by omega⟩
        rw [Int.toNat_natCast] at hv
        obtain ⟨N, hN⟩ : ∃ N, N = b.length / 128 := ⟨_, rfl⟩
        rw [← hN] at hv hm4
        refine zAa ?_
        iterate 2 (refine zd E ?_; clear E a; intro a E)
        refine zp E (zGg E rfl rfl rfl dZ (by first | exact zKb (y := 128) oZ | exact zHl (y := 128) oZ | exact rfl)) ?_; clear E a; intro a E
        rw [← hN] at E
        refine zd E ?_; clear E a; intro a E
        refine wpList_nil ?_
        refine zAb hK ?_; clear hK K
        refine wp_block ?_
        refine wp_loop_ghost (fun (m : Nat) (a : Act) (w' : World) => ∃ (i : Nat) (s' : Pw) (nw' : List UInt8) (ws' : List Wt) (vw' : Value) (Cw' : zAj), m = N - i ∧ i ≤ N ∧ wrN d an b (N - i) i s' nw' ws' = fin ∧ nw'.length = n ∧ ws'.length ≤ ws.length + i ∧ s'.wr ≤ s.wr + i ∧ s'.left ≤ 9223372036854775807 ∧ Buf Cw' 131 130 vw' ws'.length (wl ws') ∧
         St w0 ([(p, pcl s vw vd)] :: Cw :: [(d, dcl p gp gn n false)] :: [(gn, cel (byt nw) 5)] :: As) w' ([(p, pcl s' vw' vd)] :: Cw' :: [(d, dcl p gp gn n false)] :: [(gn, cel (byt nw') 5)] :: As) ∧ Fr a 104 [(0, ptr d), (1, .int .i64 an), (2, .slice ad b.length c), (31, .int .i64 N), (32, .int .i64 i)]) (N - 0) ?_ ?_
        · exact ⟨0, s, nw, ws, vw, Cw, rfl, by omega, hv.symm, hnw, by omega, by omega, hlf, hCw, (S.front4 (A := [(p, _)]) pZ (B := Cw) pZ (C := [(d, _)]) pZ (D := [(gn, _)]) pZ), E.keep (kE5 rfl rfl rfl rfl rfl)⟩
        clear E; clear a; (try clear S); rintro m a w ⟨i, s', nw', ws', vw', Cw', rfl, hi, hrest, hnw', hwl, hwr', hlf', hCw', S, E⟩
        refine wp_seq_k ?_; intro K hK
        refine zAa ?_
        refine zd E ?_; clear E a; intro a E
        refine wpList_nil ?_
        refine zAb hK ?_; clear hK K
        refine wp_seq_k ?_; intro K hK
        refine zAs E rfl (fun hb => ?_) (fun hb => ?_)
        · replace hb := Nrm.nrm hb
          refine wp_skip ?_
          refine zAb hK ?_; clear hK K
          refine wp_seq_k ?_; intro K hK
          refine wp_block ?_
          refine wp_seq_k ?_; intro K hK
          refine zAa ?_
          iterate 2 (refine zd E ?_; clear E a; intro a E)
          refine wpList_nil ?_
          refine zAb hK ?_; clear hK K
          refine wp_seq_k ?_; intro K hK
          have hiN : i < N := by omega
          rw [show N - i = (N - i - 1) + 1 by omega, wrN] at hrest
          refine zAa ?_
          iterate 2 (refine zd E ?_; clear E a; intro a E)
          refine zp E (by first | exact zAc (q := 0) E rfl rfl rfl | exact zAd (q := 0) E rfl rfl rfl) ?_; clear E a; intro a E
          iterate 2 (refine zd E ?_; clear E a; intro a E)
          refine wpList_nil ?_
          refine zAb hK ?_; clear hK K
          iterate 2 (refine wp_seq_k ?_; intro K hK)
          refine zAa ?_
          iterate 2 (refine zd E ?_; clear E a; intro a E)
          refine zp E (by first | exact zAc (q := 1) E rfl rfl rfl | exact zAd (q := 1) E rfl rfl rfl) ?_; clear E a; intro a E
          iterate 2 (refine zd E ?_; clear E a; intro a E)
          refine wpList_nil ?_
          refine zAb hK ?_; clear hK K
          refine zAs E rfl (fun hb => ?_) (fun hb => ?_)
          · replace hb := Nrm.nrm hb
            rw [if_pos hb] at hrest
            refine wp_seq_k ?_; intro K hK
            refine zAa ?_
            iterate 3 (refine zd E ?_; clear E a; intro a E)
            refine zp E (by first | exact zAc (q := 2) E rfl rfl rfl | exact zAd (q := 2) E rfl rfl rfl) ?_; clear E a; intro a E
            refine zAf rfl (zBa E S rfl rfl rfl rfl rfl rfl pZ (by first | exact Nat.le_of_ble_eq_true rfl | (simp; done) | (simp; omega)) ?_); clear E S a; intro a w E S; try dsimp only [List.set] at S
            refine zd E ?_; clear E a; intro a E
            refine zp E (by first | exact zAc (q := 1) E rfl rfl rfl | exact zAd (q := 1) E rfl rfl rfl) ?_; clear E a; intro a E
            refine zAf rfl (zBa E S rfl rfl rfl rfl rfl rfl pZ (by first | exact Nat.le_of_ble_eq_true rfl | (simp; done) | (simp; omega)) ?_); clear E S a; intro a w E S; try dsimp only [List.set] at S
            refine wpList_nil ?_
            refine zAb hK ?_; clear hK K
            refine wp_seq_k ?_; intro K hK
            refine zAa ?_
            refine zd E ?_; clear E a; intro a E
            refine wpList_nil ?_
            refine zAb hK ?_; clear hK K
            refine wp_ret ?_
            refine zBc ?_; clear hK K
            refine zDr ?_
            refine zBc ?_; clear hK K
            refine zBc ?_
            refine zDr ?_
            refine zBc ?_; clear hK K
            refine ret1 E rfl rfl ?_
            exact ⟨_, rfl, vw', Cw', by rw [← hrest], by rw [← hrest]; exact hCw', by rw [← hrest]; exact hnw', by rw [← hrest]; exact S.tr⟩
          · replace hb := Nrm.nrm hb
            rw [if_neg hb] at hrest
            refine wp_skip ?_
            refine zAb hK ?_; clear hK K
            iterate 2 (refine wp_seq_k ?_; intro K hK)
            refine zAa ?_
            iterate 2 (refine zd E ?_; clear E a; intro a E)
            refine zp E (by first | exact zAc (q := 1) E rfl rfl rfl | exact zAd (q := 1) E rfl rfl rfl) ?_; clear E a; intro a E
            iterate 2 (refine zd E ?_; clear E a; intro a E)
            refine wpList_nil ?_
            refine zAb hK ?_; clear hK K
            refine zDl (fun (a : Act) (w' : World) => ∃ lf : Int, lf = (if 0 < s'.left then s'.left - 1 else s'.left) ∧ St w0 ([(p, pcl s vw vd)] :: Cw :: [(d, dcl p gp gn n false)] :: [(gn, cel (byt nw) 5)] :: As) w' ([(p, pcl { s' with left := lf } vw' vd)] :: Cw' :: [(d, dcl p gp gn n false)] :: [(gn, cel (byt nw') 5)] :: As) ∧ Fr a 104 [(0, ptr d), (1, .int .i64 an), (2, .slice ad b.length c), (8, .int .i64 i), (9, ptr p), (31, .int .i64 N), (32, .int .i64 i)]) ?_ ?_
            · skip
              refine zAs E rfl (fun hb => ?_) (fun hb => ?_)
              · replace hb := Nrm.nrm hb
                refine zAa ?_
                iterate 2 (refine zd E ?_; clear E a; intro a E)
                refine zp E (by first | exact zAc (q := 1) E rfl rfl rfl | exact zAd (q := 1) E rfl rfl rfl) ?_; clear E a; intro a E
                refine zd E ?_; clear E a; intro a E
                refine zp E (zCo E rfl rfl rfl (by first | exact zEc (y := 1) oZ oZ | exact w_in oZ | exact zBj oZ | exact rfl)) ?_; clear E a; intro a E
                refine zd E ?_; clear E a; intro a E
                refine zp E (by first | exact zAc (q := 1) E rfl rfl rfl | exact zAd (q := 1) E rfl rfl rfl) ?_; clear E a; intro a E
                refine zAf rfl (zBa E S rfl rfl rfl rfl rfl rfl pZ (by first | exact Nat.le_of_ble_eq_true rfl | (simp; done) | (simp; omega)) ?_); clear E S a; intro a w E S; try dsimp only [List.set] at S
                refine wpList_nil ?_
                refine zAx ?_
                exact ⟨s'.left - 1, by rw [if_pos hb], S, E.keep (kE7 rfl rfl rfl rfl rfl rfl rfl)⟩
              · replace hb := Nrm.nrm hb
                refine wp_skip ?_
                refine zAx ?_
                exact ⟨s'.left, by rw [if_neg hb], S, E.keep (kE7 rfl rfl rfl rfl rfl rfl rfl)⟩
            · clear S E a; intro a w J; obtain ⟨lf, hlf2, S, E⟩ := J
              refine zAb hK ?_; clear hK K
              refine wp_seq_k ?_; intro K hK
              refine zAa ?_
              iterate 2 (refine zd E ?_; clear E a; intro a E)
              refine zp E (by first | exact zAc (q := 3) E rfl rfl rfl | exact zAd (q := 3) E rfl rfl rfl) ?_; clear E a; intro a E
              refine zd E ?_; clear E a; intro a E
              dsimp only at E S
              refine zp E (zAy E rfl rfl rfl (by first | exact zBq (y := 1) oZ | exact w_in oZ | exact zBj oZ | exact rfl)) ?_; clear E a; intro a E
              refine zd E ?_; clear E a; intro a E
              refine zp E (by first | exact zAc (q := 3) E rfl rfl rfl | exact zAd (q := 3) E rfl rfl rfl) ?_; clear E a; intro a E
              refine zAf rfl (zBa E S rfl rfl rfl rfl rfl rfl pZ (by first | exact Nat.le_of_ble_eq_true rfl | (simp; done) | (simp; omega)) ?_); clear E S a; intro a w E S; try dsimp only [List.set] at S
              refine wpList_nil ?_
              refine zAb hK ?_; clear hK K
              refine wp_seq_k ?_; intro K hK
              refine zAa ?_
              iterate 3 (refine zd E ?_; clear E a; intro a E)
              refine zp E (zAy E rfl rfl rfl (by first | exact wa1 oZ | exact w_in oZ | exact zBj oZ | exact rfl)) ?_; clear E a; intro a E
              refine zp E (zBt (cells := [ptr d, .int .i64 (an + i : Nat)] ++ List.replicate 128 (.int .u8 0)) E rfl rfl rfl) ?_; clear E a; intro a E
              refine zAf rfl (zBs E S rfl rfl dZ rfl rfl rfl ?_); clear E S a; intro a w b10 E S
              refine zAf rfl (zEq E S rfl rfl rfl rfl (by intro u hu; rcases List.mem_append.1 hu with h | h; simp at h; rcases h with rfl | rfl <;> rfl; rw [(List.mem_replicate.1 h).2]; rfl) rfl (by simp; kernel_rfl) pZ (by first | rfl | kernel_rfl) ?_); clear E S a; intro a w E S
              refine wpList_nil ?_
              refine zAb hK ?_; clear hK K
              refine wp_seq_k ?_; intro K hK
              have hbi : 128 * i + 128 ≤ b.length := by omega
              obtain ⟨ad2, c2, he2, hc2, hR2⟩ := hD.tailc (n := i * 128) oZ hc
              rw [Nat.mul_one, zEx] at hR2
              have hdl : (b.drop (i * 128)).length = b.length - i * 128 := List.length_drop
              refine zAw S (.ofL [(0, 0), (1, 0), (2, 0), (3, 0), (4, 0), (5, 0), (6, 3)]) yZ yZ ?_
              clear S; intro w S
              refine zm E rfl (fun w h => by first | exact zAc (q := 2) E rfl rfl rfl | exact zAd (q := 2) E rfl rfl rfl) ?_; clear E a; intro a E
              refine zm E rfl (fun w h => zGo E rfl rfl rfl rfl dZ) ?_; clear E a; intro a E
              iterate 2 (refine zmd E ?_; clear E a; intro a E)
              refine zm E rfl (fun w h => zCx E rfl rfl rfl (by first | exact zGa (y := 128) oZ | exact w_in oZ | exact rfl)) ?_; clear E a; intro a E
              refine zm E rfl (fun w h => zGw (lo := i * 128) (s := 1) E rfl rfl rfl rfl rfl rfl oZ) ?_; clear E a; intro a E
              rw [he2] at E
              refine zCd rfl rfl (zHk E S rfl rfl dZ rfl rfl pZ (hR2.copySrc (S.stab.at mZ) rfl) rfl rfl (by simp; omega) ?_); clear E S a; intro a w E S
              rw [wcopy d (an + i) b hbi] at S
              obtain ⟨x, hx⟩ : ∃ x, x = mkW d (an + i) (secB b i) := ⟨_, rfl⟩
              rw [← hx] at S
              refine zBd ?_
              refine zAb hK ?_; clear hK K
              refine wp_seq_k ?_; intro K hK
              refine zDe S (.ofL [(0, 0), (1, 0), (2, 0), (3, 0), (4, 0), (5, 0), (6, 1), (7, 1), (8, 0), (9, 0), (10, 3)]) [[(b10, cel x.lay 131)], [(p, cel [vw', .int .i64 lf, .bool s'.off, .int .i64 (s'.wr + 1 : Nat), vd] 127)]] (fun h => h.sub (by first | (simp; done) | (simp +contextual; done) | (simp [*]; done))) yZ yZ ?_
              clear S; intro w S
              iterate 3 (refine zmd E ?_; clear E a; intro a E)
              refine zm E rfl (fun w h => by first | exact zAc (q := 0) E rfl rfl rfl | exact zAd (q := 0) E rfl rfl rfl) ?_; clear E a; intro a E
              refine zmd E ?_; clear E a; intro a E
              refine zm E rfl (fun w h => zDu E rfl rfl rfl (h.one mZ) (Wt.lay_len x)) ?_; clear E a; intro a E
              refine zDb rfl rfl (zBm (cells := x.lay) E S rfl rfl dZ rfl rfl rfl rfl rfl dZ (fill_one yZ ((Wt.lay_len x).trans yZ)) ?_); clear E S a; intro a w b87 E S; refine ⟨S.stab.sub (by first | (simp; done) | (simp +contextual; done) | (simp [*]; done)), ?_⟩
              refine zDb rfl rfl (zBl (by' := 144) E S rfl rfl dZ rfl rfl hCw' pZ ((zBn (g := b87) (T := 131) (xs := x.lay) (s := 130) (m := 1) (Wt.lay_len x) x.lay_one oZ 1).src (S.stab.at mZ) rfl) rfl rfl rfl rfl rfl rfl (by simp only [maxLen]; omega) oZ ?_); clear E S a; intro a w v88 C88 E S hB88; refine ⟨S.stab.sub (by first | (simp; done) | (simp +contextual; done) | (simp [*]; done)), ?_⟩
              obtain ⟨ad88, c88, rfl⟩ := hB88.slice
              refine zmd E ?_; clear E a; intro a E
              refine zm E rfl (fun w h => by first | exact zAc (q := 0) E rfl rfl rfl | exact zAd (q := 0) E rfl rfl rfl) ?_; clear E a; intro a E
              refine zCd rfl rfl (zBa E S rfl rfl rfl rfl rfl rfl pZ (by first | exact Nat.le_of_ble_eq_true rfl | (simp; done) | (simp; omega)) ?_); clear E S a; intro a w E S; try dsimp only [List.set] at S
              refine zBd ?_
              refine zAb hK ?_; clear hK K
              have hxb : x.b = secB b i := by rw [hx]; exact pad_id (zCf hbi)
              have hbl2 := zCf hbi
              have hset := zEf (l := nw') (b := secB b i) (i := an + i) oZ hbl2
              refine zDe S (.ofL [(0, 0), (1, 0), (2, 0), (3, 0), (4, 0), (5, 0), (6, 0), (7, 0), (9, 0), (10, 0), (8, 1), (11, 3)]) [[(d, dcl p gp gn n false)], [(b10, cel x.lay 131)]] (fun h => h.sub (by first | (simp; done) | (simp +contextual; done) | (simp [*]; done))) yZ yZ ?_
              clear S; intro w S
              iterate 3 (refine zmd E ?_; clear E a; intro a E)
              refine zm E rfl (fun w h => by first | exact zAc (q := 2) E rfl rfl rfl | exact zAd (q := 2) E rfl rfl rfl) ?_; clear E a; intro a E
              iterate 3 (refine zmd E ?_; clear E a; intro a E)
              refine zm E rfl (fun w h => zAy E rfl rfl rfl (by first | exact wa1 oZ | exact w_in oZ | exact zBj oZ | exact rfl)) ?_; clear E a; intro a E
              refine zm E rfl (fun w h => by first | exact zAc (q := 2) E rfl rfl rfl | exact zAd (q := 2) E rfl rfl rfl) ?_; clear E a; intro a E
              refine zm E rfl (fun w h => zGo E rfl rfl rfl rfl dZ) ?_; clear E a; intro a E
              refine zBo E rfl rfl rfl dZ rfl Tryz.func55 rfl yZ rfl (zHo (ptr d) gn n (an + i) oZ hn _) ?_
              rintro v99 w ⟨rfl, hT⟩; clear E a; intro a E
              have S := S.quiet hT
              refine ⟨S.stab.sub (by first | (simp; done) | (simp +contextual; done) | (simp [*]; done)), ?_⟩
              have hRx := rd_part (g := b10) (m := 128) (T := 131) [ptr d, .int .i64 (an + i : Nat)] (byt x.b) [] (by rw [zAv, x.hb]) (zCq _) oZ 128
              rw [List.append_nil, show [ptr d, .int .i64 (an + i : Nat)] ++ byt x.b = x.lay by rw [hx]; rfl] at hRx
              refine zCd rfl rfl (zHk E S rfl rfl dZ rfl rfl pZ (hRx.copySrc (S.stab.at mZ) rfl) rfl rfl (by rw [zAv]; omega) ?_); clear E S a; intro a w E S
              rw [Nat.min_self, show (byt x.b).take 128 = byt x.b from List.take_of_length_le (by rw [zAv, x.hb]; omega), byt_setS _ _ _ x.hb, hxb] at S
              refine zBd ?_
              refine zAq ?_
              refine zAb hK ?_; clear hK K
              refine zAa ?_
              refine zp E (zAy E rfl rfl rfl (by first | exact zBq (y := 1) oZ | exact w_in oZ | exact zBj oZ | exact rfl)) ?_; clear E a; intro a E
              refine zd E ?_; clear E a; intro a E
              refine wpList_nil ?_
              refine zAn ?_
              refine ⟨_, by omega, i + 1, ⟨lf, s'.off, s'.wr + 1⟩, setS nw' (an + i) (secB b i), ws' ++ [x], _, C88, rfl, by omega, ?_, ?_, ?_, ?_, ?_, ?_, ((S.del (A := [(b87, _)]) pZ).del (A := [(b10, _)]) pZ).front4 (A := [(p, _)]) pZ (B := C88) pZ (C := [(d, _)]) pZ (D := [(gn, _)]) pZ, E.keep (kE5 rfl rfl rfl rfl rfl)⟩
              · rw [show N - (i + 1) = N - i - 1 by omega, hx, hlf2]; exact hrest
              · rw [hset]; exact hnw'
              · rw [List.length_append, List.length_singleton]; omega
              · simp only; omega
              · simp only; rw [hlf2]; split <;> omega
              · rw [List.length_append, List.length_singleton, wl, List.flatMap_append]; simpa using hB88
        · replace hb := Nrm.nrm hb
          refine wp_exit ?_
          refine zAl ?_; clear hK K
          refine zAl ?_
          refine zBi ?_
          refine zAb hK ?_; clear hK K
          refine wp_seq_k ?_; intro K hK
          refine zAa ?_
          refine zd E ?_; clear E a; intro a E
          refine wpList_nil ?_
          refine zAb hK ?_; clear hK K
          refine wp_ret ?_
          refine ret1 E rfl rfl ?_
          obtain rfl : i = N := by omega
          rw [Nat.sub_self, wrN] at hrest
          exact ⟨_, rfl, vw', Cw', by rw [← hrest], by rw [← hrest]; exact hCw', by rw [← hrest]; exact hnw', by rw [← hrest]; exact S.tr⟩
end Go.Proofs.YtpjidiaekifmbaaGreatDoor
namespace Go.Sl
structure Dk where
 d : Nat
 gp : Nat
 gn : Nat
 pl : List UInt8
 now : List UInt8
 failed : Bool
def Dk.settle (x : Dk) : Dk := { x with now := x.pl }
def putD (w : Wt) (ds : List Dk) : List Dk := ds.map fun x => if x.d = w.d then { x with pl := setS x.pl w.at_ w.b } else x
def upW : List Wt → List Bool → List Dk → List Dk
 | [], _, ds => ds
 | w :: ws, st, ds => upW ws st.tail (if st.head? = some true then putD w ds else ds)
def Dk.key (x : Dk) : Nat × Nat × Nat × Bool × Nat × List UInt8 := (x.d, x.gp, x.gn, x.failed, x.pl.length, x.now)
end Go.Sl
namespace Go.Proofs.YtpjidiaekifmbaaGreatDoor
open Go.Sl
set_option maxRecDepth 10000
abbrev ch1 (p : Nat) (x : Dk) : zAj := [(x.d, dcl p x.gp x.gn x.pl.length x.failed)]
abbrev ch2 (x : Dk) : zAj := [(x.gp, cel (byt x.pl) 5)]
abbrev ch3 (x : Dk) : zAj := [(x.gn, cel (byt x.now) 5)]
def chs (p : Nat) (ds : List Dk) : List zAj := ds.flatMap fun x => [ch1 p x, ch2 x, ch3 x]
theorem chs_open (p : Nat) (X Y Z : zAj) (A B : List Dk) (x : Dk) (As : List zAj) : (X :: Y :: Z :: (chs p (A ++ x :: B) ++ As)).Perm (ch1 p x :: ch2 x :: ch3 x :: X :: Y :: Z :: (chs p (A ++ B) ++ As)) := by
 have e1 : chs p (A ++ x :: B) ++ As = chs p A ++ (ch1 p x :: ch2 x :: ch3 x :: (chs p B ++ As)) := by simp [chs]
 have e2 : chs p (A ++ B) ++ As = chs p A ++ (chs p B ++ As) := by simp [chs]
 rw [e1, e2]
 have h : ∀ (l : List zAj) (a : zAj) (r : List zAj), (X :: Y :: Z :: (l ++ a :: r)).Perm (a :: X :: Y :: Z :: (l ++ r)) := fun l a r =>
  (List.perm_middle (l₁ := X :: Y :: Z :: l) (a := a) (l₂ := r))
 refine (h _ _ _).trans ((h _ _ _).cons _ |>.trans ?_)
 exact ((h _ _ _).cons _).cons _
def DkOk (ds : List Dk) : Prop := (ds.map Dk.d).Nodup ∧ ∀ x ∈ ds, x.now.length = x.pl.length ∧ x.pl.length ≤ 1048576
def WtOk (ws : List Wt) (ds : List Dk) : Prop := ∀ w ∈ ws, (∃ x ∈ ds, x.d = w.d) ∧ ∀ x ∈ ds, x.d = w.d → 128 * w.at_ + 128 ≤ x.pl.length
end Go.Proofs.YtpjidiaekifmbaaGreatDoor
namespace Go.Sl
theorem wrN_big {d a : Nat} {b : List UInt8} : ∀ (k i : Nat) (s : Pw) (nw : List UInt8) (ws : List Wt), s.left < 0 ∨ (k : Int) ≤ s.left →
  (wrN d a b k i s nw ws).2.2.2 = 0 ∧ (wrN d a b k i s nw ws).1.off = s.off ∧ (wrN d a b k i s nw ws).1.wr = s.wr + k ∧ (wrN d a b k i s nw ws).2.2.1.length = ws.length + k ∧ (s.left < 0 → (wrN d a b k i s nw ws).1.left = s.left)
 | 0, i, s, nw, ws, _ => by simp [wrN]
 | k + 1, i, s, nw, ws, h => by
  rw [wrN, if_neg oZ]
  have := wrN_big (d := d) (a := a) (b := b) k (i + 1) { s with left := if 0 < s.left then s.left - 1 else s.left, wr := s.wr + 1 } (setS nw (a + i) (secB b i)) (ws ++ [mkW d (a + i) (secB b i)]) (by simp only; split <;> omega)
  obtain ⟨h1, h2, h3, h4, h5⟩ := this
  refine ⟨h1, h2, by rw [h3]; simp only; omega, by rw [h4, List.length_append, List.length_singleton]; omega, fun hn => ?_⟩
  rw [h5 (by simp only; rw [if_neg oZ]; exact hn)]; simp only; rw [if_neg oZ]
theorem wrN_fit {d a n : Nat} {b : List UInt8} (P : Wt → Prop) (hP : ∀ j b', 128 * j + 128 ≤ n → P (mkW d j b')) : ∀ (k i : Nat) (s : Pw) (nw : List UInt8) (ws : List Wt), 128 * (a + i + k) ≤ n → (∀ w ∈ ws, P w) → ∀ w ∈ (wrN d a b k i s nw ws).2.2.1, P w
 | 0, i, s, nw, ws, _, h => by simpa [wrN] using h
 | k + 1, i, s, nw, ws, hk, h => by
  rw [wrN]
  split
  ·exact h
  ·refine wrN_fit P hP k (i + 1) _ _ _ oZ fun w hw => ?_
   rcases List.mem_append.1 hw with h1 | h1
   ·exact h w h1
   ·rw [List.mem_singleton.1 h1]; exact hP _ _ oZ
theorem wrS_fit {d n : Nat} {at_ : Int} {b : List UInt8} (P : Wt → Prop) (hP : ∀ j b', 128 * j + 128 ≤ n → P (mkW d j b')) (s : Pw) (f : Bool) (nw : List UInt8) (ws : List Wt) (h : ∀ w ∈ ws, P w) : ∀ w ∈ (wrS d n at_ b s f nw ws).2.2.1, P w := by
 unfold wrS
 split; exact h
 split; exact h
 split; exact h
 rename_i hm
 have hm : zDy n at_ b := Decidable.byContradiction hm
 obtain ⟨h1, h2, h3, h4⟩ := hm
 exact wrN_fit P hP _ _ _ _ _ oZ h
end Go.Sl
namespace Go.Proofs.YtpjidiaekifmbaaGreatDoor
open Go.Sl
set_option maxRecDepth 10000
theorem fail_ret (d p gp gn n : Nat) (f : Bool) (s : Pw) (vw vd : Value) (pl nw : List UInt8) (hpl : pl.length = n) (hnw : nw.length = n) (hn : n ≤ 1048576) (ws : List Wt) (Cw : zAj) (hCw : Buf Cw 131 130 vw ws.length (wl ws)) (As : List zAj) (hB : ∀ x ∈ ws, x.d = d ∨ Bks As x.d) (w0 : World)
  (H : Hp w0 ([(p, pcl s vw vd)] :: Cw :: [(d, dcl p gp gn n f)] :: [(gp, cel (byt pl) 5)] :: [(gn, cel (byt nw) 5)] :: As)) :
  Ret Tryz.prog 17 #[ptr d] w0 fun _ w' => ∃ vw' Cw', Buf Cw' 131 130 vw' (outW d ws).length (wl (outW d ws)) ∧
    Trs w0 w' ([(p, pcl s vw vd)] :: Cw :: [(d, dcl p gp gn n f)] :: [(gp, cel (byt pl) 5)] :: [(gn, cel (byt nw) 5)] :: As) ([(p, pcl s vw' vd)] :: Cw' :: [(d, dcl p gp gn n true)] :: [(gp, cel (byt pl) 5)] :: [(gn, cel (byt pl) 5)] :: As) := by
 have S := St.begin H
 refine zCh 20 Tryz.func17 rfl rfl dZ ?_; intro a E
 refine wp_seq_k ?_; intro K hK
 refine zAa ?_
 iterate 2 (refine zd E ?_; clear E a; intro a E)
 refine zp E (by first | exact zAc (q := 0) E rfl rfl rfl | exact zAd (q := 0) E rfl rfl rfl) ?_; clear E a; intro a E
 iterate 2 (refine zd E ?_; clear E a; intro a E)
 refine zAg E rfl rfl dZ rfl Tryz.func52 rfl yZ rfl (drop_ret p s vw vd ws Cw hCw d ([(d, dcl p gp gn n f)] :: [(gp, cel (byt pl) 5)] :: [(gn, cel (byt nw) 5)] :: As) (fun x hx => (hB x hx).imp_right fun h => ⟨h.sub (fun _ h => by repeat (first | exact h | apply List.Mem.tail)), ⟨_, List.Mem.head _, _, _, List.Mem.head _⟩⟩) _ S.hp) ?_
 rintro v7 w ⟨vw', Cw', hCw', hT⟩; clear E a; intro a E
 have S := S.all hT
 have hR := zBn (g := gp) (T := 5) (xs := byt pl) (s := 1) (m := n) (by rw [zAv]; omega) (zCq pl) oZ n
 refine wpList_nil ?_
 refine zAb hK ?_; clear hK K
 refine wp_seq_k ?_; intro K hK
 refine zAw S (.ofL [(0, 0), (1, 0), (2, 0), (3, 0), (4, 0), (5, 0), (6, 0), (7, 0), (8, 3)]) yZ yZ ?_
 clear S; intro w S
 iterate 2 (refine zmd E ?_; clear E a; intro a E)
 refine zm E rfl (fun w h => by first | exact zAc (q := 2) E rfl rfl rfl | exact zAd (q := 2) E rfl rfl rfl) ?_; clear E a; intro a E
 iterate 3 (refine zmd E ?_; clear E a; intro a E)
 refine zm E rfl (fun w h => by first | exact zAc (q := 1) E rfl rfl rfl | exact zAd (q := 1) E rfl rfl rfl) ?_; clear E a; intro a E
 refine zmd E ?_; clear E a; intro a E
 refine zCd rfl rfl (zHk E S rfl rfl dZ rfl rfl pZ (hR.copySrc (S.stab.at mZ) rfl) rfl rfl (by rw [zAv]; omega) ?_); clear E S a; intro a w E S
 rw [copy_whole (by rw [zAv]; exact hnw) (by rw [zAv]; exact hpl)] at S
 refine zBd ?_
 refine zAb hK ?_; clear hK K
 refine zAa ?_
 iterate 2 (refine zd E ?_; clear E a; intro a E)
 refine zp E (by first | exact zAc (q := 3) E rfl rfl rfl | exact zAd (q := 3) E rfl rfl rfl) ?_; clear E a; intro a E
 refine zAf rfl (zBa E S rfl rfl rfl rfl rfl rfl pZ (by first | exact Nat.le_of_ble_eq_true rfl | (simp; done) | (simp; omega)) ?_); clear E S a; intro a w E S; try dsimp only [List.set] at S
 refine wpList_nil ?_
 refine end0 E rfl ?_
 exact ⟨_, rfl, vw', Cw', hCw', (S.front5 (A := [(p, _)]) pZ (B := Cw') pZ (C := [(d, _)]) pZ (D := [(gp, _)]) pZ (F := [(gn, _)]) pZ).tr⟩
end Go.Proofs.YtpjidiaekifmbaaGreatDoor
namespace Go.Sl
def putS (l : List UInt8) (w : Wt) : List UInt8 := setS l w.at_ w.b
theorem zIa {l b : List UInt8} {i : Nat} (h : 128 * i ≤ l.length) (hb : b.length = 128) : secB (setS l i b) i = b := by
 have h1 : (l.take (128 * i)).length = 128 * i := by rw [List.length_take]; omega
 rw [secB, setS, List.append_assoc, List.drop_left' h1, List.take_left' hb]
theorem zFj {l b : List UInt8} {i s : Nat} (h : 128 * i + 128 ≤ l.length) (hb : b.length = 128) (hne : i ≠ s) : secB (setS l i b) s = secB l s := by
 have hlen : (setS l i b).length = l.length := zEf h hb
 apply List.ext_getElem?
 intro j
 rw [secB, secB, List.getElem?_take, List.getElem?_take]
 split
 ·rw [List.getElem?_drop, List.getElem?_drop, setS]
  have h1 : (l.take (128 * i)).length = 128 * i := by rw [List.length_take]; omega
  rcases Nat.lt_or_ge s i with c | c
  ·rw [List.append_assoc, List.getElem?_append_left oZ, List.getElem?_take_of_lt oZ]
  ·rw [List.getElem?_append_right (by rw [List.length_append, h1, hb]; omega), List.length_append, h1, hb, List.getElem?_drop, show 128 * i + 128 + (128 * s + j - (128 * i + 128)) = 128 * s + j by omega]
 ·rfl
theorem outW_self {d : Nat} {ws : List Wt} (h : ∀ w ∈ ws, w.d = d) : outW d ws = [] := by
 rw [outW, List.filter_eq_nil_iff]
 intro w hw; simp [h w hw]
end Go.Sl
namespace Go.Sl
theorem Trs.nilR {w w' : World} {As Bs : List zAj} (h : Trs w w' As Bs) : Trs w w' As ([] :: Bs) := by unfold Trs at *; simpa using h
def rdMay (n : Nat) (at_ many : Int) : Prop := 0 ≤ at_ ∧ 0 ≤ many ∧ at_ ≤ (n / 128 : Nat) ∧ many ≤ (n / 128 : Nat) - at_
instance (n : Nat) (at_ many : Int) : Decidable (rdMay n at_ many) := by unfold rdMay; infer_instance
def rdS (s : Pw) (f : Bool) (nw : List UInt8) (at_ many : Int) : Int × List UInt8 :=
 if s.off then (5, []) else if f then (30, []) else if ¬ rdMay nw.length at_ many then (1, []) else (0, (nw.drop (at_.toNat * 128)).take (many.toNat * 128))
def flE (s : Pw) (f : Bool) : Int := if s.off then 5 else if f then 30 else 0
def flW (d : Nat) (s : Pw) (f : Bool) (ws : List Wt) : List Wt := if flE s f = 0 then outW d ws else ws
def flP (s : Pw) (f : Bool) (pl nw : List UInt8) : List UInt8 := if flE s f = 0 then nw else pl
theorem flW_mem {d : Nat} {s : Pw} {f : Bool} {ws : List Wt} {x : Wt} (h : x ∈ flW d s f ws) : x ∈ ws := by
 unfold flW at h
 split at h
 ·exact (List.mem_filter.1 h).1
 ·exact h
end Go.Sl
namespace Go.Proofs.YtpjidiaekifmbaaGreatDoor
open Go.Sl
set_option maxRecDepth 10000
theorem dread_u (d p gp gn : Nat) (f : Bool) (s : Pw) (vw vd : Value) (nw : List UInt8) (hn : nw.length ≤ 1048576) (at_ many : Int) (ha : -9223372036854775808 ≤ at_ ∧ at_ ≤ 9223372036854775807) (w0 : World)
  (H : Hp w0 [[(p, pcl s vw vd)], [(d, dcl p gp gn nw.length f)], [(gn, cel (byt nw) 5)]]) :
  Ret Tryz.prog 48 #[ptr d, .int .i64 at_, .int .i64 many] w0 fun u w' => ∃ v C, u = .tuple #[v, .int .i64 (rdS s f nw at_ many).1] ∧ Buf C 5 1 v (rdS s f nw at_ many).2.length (byt (rdS s f nw at_ many).2) ∧
    Trs w0 w' [[(p, pcl s vw vd)], [(d, dcl p gp gn nw.length f)], [(gn, cel (byt nw) 5)]] [C, [(p, pcl s vw vd)], [(d, dcl p gp gn nw.length f)], [(gn, cel (byt nw) 5)]] := by
 refine (dread_ret d p gp gn f s vw vd nw hn at_ many ha w0 H).mono fun u w' h => ?_
 rcases h with ⟨h1, rfl, hT⟩ | ⟨h1, h2, rfl, hT⟩ | ⟨h1, h2, h3, rfl, hT⟩ | ⟨h1, h2, h3, g, rfl, hT⟩
 ·have he : rdS s f nw at_ many = (5, []) := by unfold rdS; rw [if_pos h1]
  rw [he]; exact ⟨_, [], rfl, Buf.nil _ _, hT.nilR⟩
 ·have he : rdS s f nw at_ many = (30, []) := by unfold rdS; rw [if_neg (by simp [h1]), if_pos h2]
  rw [he]; exact ⟨_, [], rfl, Buf.nil _ _, hT.nilR⟩
 ·have he : rdS s f nw at_ many = (1, []) := by unfold rdS; rw [if_neg (by simp [h1]), if_neg (by simp [h2])]; exact if_pos h3
  rw [he]; exact ⟨_, [], rfl, Buf.nil _ _, hT.nilR⟩
 ·have he : rdS s f nw at_ many = (0, (nw.drop (at_.toNat * 128)).take (many.toNat * 128)) := by unfold rdS; rw [if_neg (by simp [h1]), if_neg (by simp [h2])]; exact if_neg (fun q => q h3)
  rw [he]
  obtain ⟨h3a, h3b, h3c, h3d⟩ := h3
  have hl : ((nw.drop (at_.toNat * 128)).take (many.toNat * 128)).length = many.toNat * 128 := by rw [List.length_take, List.length_drop]; omega
  refine ⟨_, _, rfl, ?_, hT⟩
  have hb := zHf (g := g) (c := many.toNat * 128) (s := 1) (m := many.toNat * 128) (xs := byt ((nw.drop (at_.toNat * 128)).take (many.toNat * 128))) (r := []) (T := 5) (by rw [zAv, hl, Nat.mul_one]) (zCq _) (Nat.le_refl _) (by simp only [maxLen]; omega) (by rw [zAv, hl, List.length_nil]; omega)
  rw [List.append_nil] at hb
  rw [hl]; exact hb
theorem flush_u (d p gp gn n : Nat) (f : Bool) (s : Pw) (vw vd : Value) (pl nw : List UInt8) (hpl : pl.length = n) (hnw : nw.length = n) (hn : n ≤ 1048576) (ws : List Wt) (Cw : zAj) (hCw : Buf Cw 131 130 vw ws.length (wl ws)) (As : List zAj) (hB : ∀ x ∈ ws, x.d = d ∨ Bks As x.d) (w0 : World)
  (H : Hp w0 ([(p, pcl s vw vd)] :: Cw :: [(d, dcl p gp gn n f)] :: [(gp, cel (byt pl) 5)] :: [(gn, cel (byt nw) 5)] :: As)) :
  Ret Tryz.prog 65 #[ptr d] w0 fun u w' => u = .int .i64 (flE s f) ∧ ∃ vw' Cw', Buf Cw' 131 130 vw' (flW d s f ws).length (wl (flW d s f ws)) ∧
    Trs w0 w' ([(p, pcl s vw vd)] :: Cw :: [(d, dcl p gp gn n f)] :: [(gp, cel (byt pl) 5)] :: [(gn, cel (byt nw) 5)] :: As) ([(p, pcl s vw' vd)] :: Cw' :: [(d, dcl p gp gn n f)] :: [(gp, cel (byt (flP s f pl nw)) 5)] :: [(gn, cel (byt nw) 5)] :: As) := by
 refine (flush_ret d p gp gn n f s vw vd pl nw hpl hnw hn ws Cw hCw As hB w0 H).mono fun u w' h => ?_
 rcases h with ⟨h1, rfl, hT⟩ | ⟨h1, h2, rfl, vw', Cw', hCw', hT⟩
 ·have he : flE s f = if s.off then 5 else 30 := by
   unfold flE; cases hs : s.off
   ·rw [hs] at h1; have hf : f = true := by simpa using h1
    simp [hf]
   ·simp
  have hne : flE s f ≠ 0 := by rw [he]; split <;> decide
  have hw : flW d s f ws = ws := if_neg hne
  have hp : flP s f pl nw = pl := if_neg hne
  rw [hw, hp]
  exact ⟨by rw [he], vw, Cw, hCw, hT⟩
 ·have he : flE s f = 0 := by unfold flE; rw [if_neg (by simp [h1]), if_neg (by simp [h2])]
  have hw : flW d s f ws = outW d ws := if_pos he
  have hp : flP s f pl nw = nw := if_pos he
  rw [hw, hp, he]
  exact ⟨rfl, vw', Cw', hCw', hT⟩
end Go.Proofs.YtpjidiaekifmbaaGreatDoor
namespace Go.Sl
section
variable {P : Program} {a : Act} {o : Oper} {n : Nat} {e : List (Nat × Value)} {ds : List Deferred} {x y : Operand} {w w0 : World} {As Ls Rs : List zAj} {K : Act → World → Prop} {Q : Exit → Act → World → Prop}
end
section
variable {w0 w w' : World} {As Ls Rs Bs Ms : List zAj} {A B C D : zAj}
theorem St.openF (S : St w0 As w (Ms.flatten :: Ls)) : St w0 As w (Ms ++ Ls) :=
 ⟨S.hp0, by have h := S.tr; unfold Trs at *; simpa [List.flatten_cons, List.flatten_append] using h⟩
theorem St.closeF (S : St w0 As w (Ms ++ Ls)) : St w0 As w (Ms.flatten :: Ls) :=
 ⟨S.hp0, by have h := S.tr; unfold Trs at *; simpa [List.flatten_cons, List.flatten_append] using h⟩
end
theorem St.cel {w0 w : World} {As Ls : List zAj} {b : Nat} {l l' : List Value} {T : TypeId} (S : St w0 As w ([(b, Sl.cel l T)] :: Ls)) (h : l = l') : St w0 As w ([(b, Sl.cel l' T)] :: Ls) := h ▸ S
def xorB : List UInt8 → List UInt8 → List UInt8
 | x :: xs, m :: ms => (x ^^^ m) :: xorB xs ms
 | [], _ => []
 | x :: xs, [] => x :: xs
theorem zCg : ∀ (xs ms : List UInt8), (xorB xs ms).length = xs.length
 | x :: xs, m :: ms => by simp [xorB, zCg xs ms]
 | [], ms => by cases ms <;> rfl
 | x :: xs, [] => rfl
theorem xorB_nil (xs : List UInt8) : xorB xs [] = xs := by cases xs <;> rfl
theorem zJm : ∀ (xs ms : List UInt8) (i : Nat) (x m : UInt8), xs[i]? = some x → ms[i]? = some m → (xorB xs ms)[i]? = some (x ^^^ m)
 | [], ms, i, x, m, h, _ => by simp at h
 | a :: xs, [], i, x, m, _, h => by simp at h
 | a :: xs, b :: ms, 0, x, m, h1, h2 => by simp at h1 h2; subst h1 h2; rfl
 | a :: xs, b :: ms, i + 1, x, m, h1, h2 => by simp at h1 h2; simp [xorB]; exact zJm xs ms i x m h1 h2
theorem zFt : ∀ (xs ms : List UInt8) (i : Nat), ms.length ≤ i → (xorB xs ms)[i]? = xs[i]?
 | [], ms, i, h => by cases ms <;> rfl
 | a :: xs, [], i, _ => rfl
 | a :: xs, b :: ms, 0, h => by simp at h
 | a :: xs, b :: ms, i + 1, h => by simp [xorB]; exact zFt xs ms i (by simpa using h)
theorem zKk {xs ms : List UInt8} {i : Nat} {x m : UInt8} (hx : xs[i]? = some x) (hm : ms[i]? = some m) : (xorB xs (ms.take i)).set i (x ^^^ m) = xorB xs (ms.take (i + 1)) := by
 have hi : i < ms.length := (List.getElem?_eq_some_iff.1 hm).1
 have hix : i < xs.length := (List.getElem?_eq_some_iff.1 hx).1
 apply List.ext_getElem?
 intro j
 rw [List.getElem?_set]
 by_cases hj : i = j
 ·subst hj
  rw [if_pos rfl, if_pos (by rw [zCg]; exact hix)]
  exact (zJm xs _ i x m hx (by rw [List.getElem?_take_of_lt oZ]; exact hm)).symm
 ·rw [if_neg hj]
  rcases Nat.lt_or_ge j i with c | c
  ·rcases Nat.lt_or_ge j xs.length with d | d
   ·rw [zJm xs (ms.take i) j xs[j] ms[j] (by simp) (by simp [c]), zJm xs (ms.take (i + 1)) j xs[j] ms[j] (by simp) (by rw [List.getElem?_take_of_lt oZ]; simp)]
   ·rw [List.getElem?_eq_none (by rw [zCg]; exact d), List.getElem?_eq_none (by rw [zCg]; exact d)]
  ·rw [zFt _ _ _ (by rw [List.length_take]; omega), zFt _ _ _ (by rw [List.length_take]; omega)]
theorem xor8 (x m : UInt8) : bits .xor .u8 (x.toNat : Int) (m.toNat : Int) = ((x ^^^ m).toNat : Int) := by
 have h2 : ∀ z : UInt8, (BitVec.ofInt 8 (z.toNat : Int)).toNat = z.toNat := fun z => by
  rw [BitVec.ofInt_natCast, BitVec.toNat_ofNat]; exact Nat.mod_eq_of_lt z.toNat_lt
 show IntKind.u8.wrap (((BitVec.ofInt 8 (x.toNat : Int) ^^^ BitVec.ofInt 8 (m.toNat : Int)).toNat : Nat) : Int) = _
 rw [BitVec.toNat_xor, h2, h2, ← UInt8.toNat_xor, IntKind.wrap_u8]
 have := (x ^^^ m).toNat_lt
 omega
end Go.Sl
namespace Go.Sl
theorem byt_set (l : List UInt8) (i : Nat) (x : UInt8) : (byt l).set i (.int .u8 x.toNat) = byt (l.set i x) := by simp [byt, List.map_set]
end Go.Sl
namespace Go.Proofs.YtpjidiaekifmbaaGreatDoor
open Go.Sl
set_option maxRecDepth 10000
theorem turn_ret (g off m c : Nat) (T : TypeId) (pre post : List Value) (xs : List UInt8) (hpre : pre.length = off) (hxm : xs.length = m) (hb : m ≤ 4611686018427387904) (v : Value) (ms : List UInt8) (hms : ms.length ≤ m) (D : zAj) (hD : Rd D 1 v ms.length (byt ms)) (As : List zAj) (hDA : D ∈ As) (w0 : World)
  (H : Hp w0 ([(g, cel (pre ++ byt xs ++ post) T)] :: As)) :
  Ret Tryz.prog 54 #[.slice (some ⟨g, off, none⟩) m c, v] w0 fun _ w' => Trs w0 w' ([(g, cel (pre ++ byt xs ++ post) T)] :: As) ([(g, cel (pre ++ byt (xorB xs ms) ++ post) T)] :: As) := by
 have S := St.begin H
 obtain ⟨ad, cd, rfl⟩ := hD.slice
 have hm9 := hD.2.2.1
 simp only [maxLen] at hm9
 refine zBx 21 Tryz.func54 rfl rfl dZ ?_; intro a E
 refine wp_seq_k ?_; intro K hK
 refine zAa ?_
 iterate 3 (refine zd E ?_; clear E a; intro a E)
 refine wpList_nil ?_
 refine zAb hK ?_; clear hK K
 refine wp_block ?_
 refine wp_loop_ghost (fun (m : Nat) (a : Act) (w' : World) => ∃ i : Nat, m = ms.length - i ∧ i ≤ ms.length ∧ St w0 ([(g, cel (pre ++ byt xs ++ post) T)] :: As) w' ([(g, cel (pre ++ byt (xorB xs (ms.take i)) ++ post) T)] :: As) ∧ Fr a 21 [(0, .slice (some ⟨g, off, none⟩) xs.length c), (6, .slice ad ms.length cd), (7, .int .i64 ms.length), (8, .int .i64 i)]) (ms.length - 0) ?_ ?_
 ·subst hxm; exact ⟨0, rfl, by omega, by rw [List.take_zero, xorB_nil]; exact S, E.keep (kE4 rfl rfl rfl rfl)⟩
 clear E; clear a; (try clear S); rintro m a w ⟨i, rfl, hi, S, E⟩
 refine wp_seq_k ?_; intro K hK
 refine zAa ?_
 refine zd E ?_; clear E a; intro a E
 refine wpList_nil ?_
 refine zAb hK ?_; clear hK K
 refine wp_seq_k ?_; intro K hK
 refine zAs E rfl (fun hb => ?_) (fun hb => ?_)
 ·replace hb := Nrm.nrm hb
  refine wp_skip ?_
  refine zAb hK ?_; clear hK K
  refine wp_seq_k ?_; intro K hK
  refine wp_block ?_
  refine wp_seq_k ?_; intro K hK
  have hil : i < ms.length := by omega
  obtain ⟨gm, om, rfl⟩ := hD.addr oZ
  obtain ⟨x, hx⟩ : ∃ x, xs[i]? = some x := ⟨_, List.getElem?_eq_getElem oZ⟩
  obtain ⟨q, hq⟩ : ∃ q, ms[i]? = some q := ⟨_, List.getElem?_eq_getElem hil⟩
  have hqb : (byt ms)[i]? = some (.int .u8 q.toNat) := by simp [byt, hq]
  have hxi : (xorB xs (ms.take i))[i]? = some x := by rw [zFt _ _ _ (by rw [List.length_take]; omega)]; exact hx
  have hcell : (pre ++ byt (xorB xs (ms.take i)) ++ post)[off + i]? = some (.int .u8 x.toNat) := by
   rw [List.append_assoc, List.getElem?_append_right oZ, hpre, Nat.add_sub_cancel_left, List.getElem?_append_left (by rw [zAv, zCg]; omega)]; simp [byt, hxi]
  have hset : (pre ++ byt (xorB xs (ms.take i)) ++ post).set (off + i) (.int .u8 (x ^^^ q).toNat) = pre ++ byt (xorB xs (ms.take (i + 1))) ++ post := by
   rw [List.append_assoc, List.set_append, if_neg oZ, hpre, Nat.add_sub_cancel_left, List.set_append, if_pos (by rw [zAv, zCg]; omega), byt_set, zKk hx hq, List.append_assoc]
  refine zAa ?_
  refine zd E ?_; clear E a; intro a E
  refine zp E (zAp (i := i) E rfl rfl rfl rfl rfl rfl oZ) ?_; clear E a; intro a E
  refine zp E (zAo E rfl rfl rfl (hD.cells (S.stab.at mZ) rfl i _ hqb)) ?_; clear E a; intro a E
  iterate 2 (refine zd E ?_; clear E a; intro a E)
  refine wpList_nil ?_
  refine zAb hK ?_; clear hK K
  refine zAa ?_
  iterate 2 (refine zd E ?_; clear E a; intro a E)
  refine zp E (zAp (i := i) E rfl rfl rfl rfl rfl rfl oZ) ?_; clear E a; intro a E
  refine zp E (zAo E rfl rfl rfl (zBv (S.get (show List.Perm _ ([(g, _)] :: _) from pZ)) hcell)) ?_; clear E a; intro a E
  refine zd E ?_; clear E a; intro a E
  refine zp E (zDs E rfl rfl rfl (xor8 x q)) ?_; clear E a; intro a E
  refine zp E (zAp (i := i) E rfl rfl rfl rfl rfl rfl oZ) ?_; clear E a; intro a E
  refine zAf rfl (zBa E S rfl rfl rfl rfl rfl rfl pZ (by simp [zAv, zCg]; omega) ?_); clear E S a; intro a w E S; try dsimp only [List.set] at S
  refine wpList_nil ?_
  refine zAq ?_
  refine zAb hK ?_; clear hK K
  refine zAa ?_
  refine zp E (zAy E rfl rfl rfl (by first | exact zBq (y := 1) oZ | exact w_in oZ | exact zBj oZ | exact rfl)) ?_; clear E a; intro a E
  refine zd E ?_; clear E a; intro a E
  refine wpList_nil ?_
  refine zAn ?_
  rw [hset] at S
  exact ⟨_, by omega, i + 1, rfl, by omega, S, E.keep (kE4 rfl rfl rfl rfl)⟩
 ·replace hb := Nrm.nrm hb
  refine wp_exit ?_
  refine zAl ?_; clear hK K
  refine zAl ?_
  refine zBi ?_
  refine end0 E rfl ?_
  obtain rfl : i = ms.length := by omega
  rw [List.take_length] at S
  exact ⟨_, rfl, S.tr⟩
end Go.Proofs.YtpjidiaekifmbaaGreatDoor
