/-
  Texts put together (3).
-/
import Derived.Test.YtidhehcjafoneaaGreatDoorZMirrorAlone2
namespace Go.Sl
theorem zGz (n : Nat) : byt (List.replicate n 0) = List.replicate n (.int .u8 0) := by simp [byt]
theorem copy_head {l ys : List Value} {k : Nat} (hl : l.length = k) (hy : k ≤ ys.length) : l.take 0 ++ ys.take (min ys.length k) ++ l.drop (0 + min ys.length k) = ys.take k := by
  rw [Nat.min_eq_right hy, Nat.zero_add, List.take_zero, List.nil_append, ← hl, List.drop_length, List.append_nil]
end Go.Sl
namespace Go.Proofs.YtidhehcjafoneaaGreatDoor
open Go.Sl
set_option maxRecDepth 10000
theorem dnew_ret (p : Nat) (s : Pw) (vw vd : Value) (k : Nat) (xs : List Value) (Cd : zAs) (hCd : Buf Cd 46 1 vd k xs) (hk : k ≤ 1000) (n : Nat) (h1 : 1 ≤ n) (h2 : n ≤ 8192) (w0 : World) (H : Hp w0 [[(p, pcl s vw vd)], Cd]) :
    Ret Tryz.prog 26 #[ptr p, .int .i64 n] w0 fun u w' => ∃ d gp gn vd' Cd', u = .tuple #[ptr d, .int .i64 0] ∧ Buf Cd' 46 1 vd' (k + 1) (xs ++ [ptr d]) ∧
      Trs w0 w' [[(p, pcl s vw vd)], Cd] [[(p, pcl s vw vd')], Cd', [(d, dcl p gp gn (n * 128) false)], [(gp, cel (byt (List.replicate (n * 128) 0)) 5)], [(gn, cel (byt (List.replicate (n * 128) 0)) 5)]] := by
  have S := St.begin H
  obtain ⟨add, cd, rfl⟩ := hCd.slice
  refine zCy 37 Tryz.func26 rfl rfl (by decide) ?_; intro a E
  refine wp_seq_k ?_; intro K hK
  refine zAc ?_
  iterate 2 (refine zp E (zAg E rfl rfl) ?_; clear E a; intro a E)
  refine wpList_nil ?_
  refine zAh hK ?_; clear hK; clear K
  iterate 2 (refine wp_seq_k ?_; intro K hK)
  refine zAc ?_
  refine zp E (zAe E rfl rfl) ?_; clear E a; intro a E
  refine zp E (by first | exact zCf E rfl rfl rfl | exact zAu E rfl rfl rfl rfl | exact zBc E rfl rfl rfl rfl | exact zAw E rfl rfl rfl) ?_; clear E a; intro a E
  refine zp E (zAe E rfl rfl) ?_; clear E a; intro a E
  refine zCh E (t := 9) rfl (rfl) (fun hb9 => ?_)
  refine zy E hb9 (zAe E rfl rfl) ?_; clear E a; intro a E
  refine zy E hb9 (zCb E rfl rfl rfl) ?_; clear E a; intro a E
  refine zp E (zAq E rfl rfl hb9 rfl) ?_; clear E a; intro a E
  refine zp E (zAe E rfl rfl) ?_; clear E a; intro a E
  refine zCh E (t := 13) rfl ((decide_eq_false (by omega))) (fun hb13 => ?_)
  refine zy E hb13 (zAe E rfl rfl) ?_; clear E a; intro a E
  refine zy E hb13 (zDd E rfl rfl rfl) ?_; clear E a; intro a E
  refine zp E (zAq E rfl rfl hb13 rfl) ?_; clear E a; intro a E
  refine wpList_nil ?_
  refine zAh hK ?_; clear hK; clear K
  refine zBt E rfl ((decide_eq_false (by omega))) ?_
  refine wp_skip ?_
  refine zAh hK ?_; clear hK; clear K
  refine wp_seq_k ?_; intro K hK
  refine zFe (fun (a : Act) (w' : World) => ∃ d gp gn, St w0 [[(p, pcl s (vw) (.slice add k cd))], Cd] w' ([(d, dcl p gp gn (n * 128) false)] :: [(gp, cel (byt (List.replicate (n * 128) 0)) 5)] :: [(gn, cel (byt (List.replicate (n * 128) 0)) 5)] :: [(p, pcl s vw (.slice add k cd))] :: [Cd]) ∧ Fr a 37 [(0, ptr p), (6, ptr d)]) ?_ ?_
  · skip
    refine zBo S (.cons (0, 0) (.cons (1, 0) (.cons (2, 0) (.cons (4, 0) (.cons (5, 0) (.fork 3 (.ofL [(6, 1), (7, 0), (8, 3), (9, 2)]) 6 (.ofL [(3, 1), (7, 0), (8, 3), (9, 2)]))))))) (by kernel_rfl) (by kernel_rfl) ?_
    clear S; intro w S
    iterate 2 (refine zm E rfl (fun w h => zAe E rfl rfl) ?_; clear E a; intro a E)
    refine zm E rfl (fun w h => zEd E rfl rfl rfl (by first | exact zGb (y := 128) (by omega) | exact w_in (by omega) | exact rfl)) ?_; clear E a; intro a E
    refine zm E rfl (fun w h => zAe E rfl rfl) ?_; clear E a; intro a E
    refine zm E rfl (fun w h => zEd E rfl rfl rfl (by first | exact zGb (y := 128) (by omega) | exact w_in (by omega) | exact rfl)) ?_; clear E a; intro a E
    refine ⟨?_, ?_⟩
    · skip
      refine zDp rfl rfl (zDq (by' := 1) E S rfl rfl (by decide) rfl rfl rfl rfl rfl rfl rfl rfl rfl rfl rfl (by first | exact mkb (by omega) | exact mkb8 (by omega) | exact mkbn rfl (by omega)) (by simp only [maxLen]; omega) ?_); clear E S a; intro a w g20 E S; refine ⟨S.stab.sub (by first | (simp; done) | (simp +contextual; done) | (simp [*]; done)), ?_⟩
      refine zDp rfl rfl (zDq (by' := 1) E S rfl rfl (by decide) rfl rfl rfl rfl rfl rfl rfl rfl rfl rfl rfl (by first | exact mkb (by omega) | exact mkb8 (by omega) | exact mkbn rfl (by omega)) (by simp only [maxLen]; omega) ?_); clear E S a; intro a w g23 E S; refine ⟨S.stab.sub (by first | (simp; done) | (simp +contextual; done) | (simp [*]; done)), ?_⟩
      refine zm E rfl (fun w h => zCo (cells := [_, _, _, _]) E rfl rfl rfl) ?_; clear E a; intro a E
      refine zCq rfl rfl (zCs E S rfl rfl (by decide) rfl rfl ?_); clear E S a; intro a w b25 E S
      refine zCl E rfl rfl rfl (by decide) (fun w => zAg E rfl rfl) ?_; clear E a; intro a E
      refine zBs ?_
      refine zBp ?_
      exact ⟨b25, g20, g23, by rw [zGz]; exact S.front3 (A := [(b25, _)]) (by repeat (first | exact pk1 | apply zAa)) (B := [(g20, _)]) (by repeat (first | exact pk1 | apply zAa)) (C := [(g23, _)]) (by repeat (first | exact pk1 | apply zAa)), E.keep (zAb rfl (zAb rfl zAp))⟩
    · skip
      refine zDp rfl rfl (zDq (by' := 1) E S rfl rfl (by decide) rfl rfl rfl rfl rfl rfl rfl rfl rfl rfl rfl (by first | exact mkb (by omega) | exact mkb8 (by omega) | exact mkbn rfl (by omega)) (by simp only [maxLen]; omega) ?_); clear E S a; intro a w g23 E S; refine ⟨S.stab.sub (by first | (simp; done) | (simp +contextual; done) | (simp [*]; done)), ?_⟩
      refine zDp rfl rfl (zDq (by' := 1) E S rfl rfl (by decide) rfl rfl rfl rfl rfl rfl rfl rfl rfl rfl rfl (by first | exact mkb (by omega) | exact mkb8 (by omega) | exact mkbn rfl (by omega)) (by simp only [maxLen]; omega) ?_); clear E S a; intro a w g20 E S; refine ⟨S.stab.sub (by first | (simp; done) | (simp +contextual; done) | (simp [*]; done)), ?_⟩
      refine zm E rfl (fun w h => zCo (cells := [_, _, _, _]) E rfl rfl rfl) ?_; clear E a; intro a E
      refine zCq rfl rfl (zCs E S rfl rfl (by decide) rfl rfl ?_); clear E S a; intro a w b25 E S
      refine zCl E rfl rfl rfl (by decide) (fun w => zAg E rfl rfl) ?_; clear E a; intro a E
      refine zBs ?_
      refine zBp ?_
      exact ⟨b25, g20, g23, by rw [zGz]; exact S.front3 (A := [(b25, _)]) (by repeat (first | exact pk1 | apply zAa)) (B := [(g20, _)]) (by repeat (first | exact pk1 | apply zAa)) (C := [(g23, _)]) (by repeat (first | exact pk1 | apply zAa)), E.keep (zAb rfl (zAb rfl zAp))⟩
  · clear E S a; intro a w J; obtain ⟨d, gp, gn, S, E⟩ := J
    refine zAh hK ?_; clear hK; clear K
    refine wp_seq_k ?_; intro K hK
    refine zAc ?_
    iterate 2 (refine zp E (zAe E rfl rfl) ?_; clear E a; intro a E)
    refine zp E (zAl E rfl rfl) ?_; clear E a; intro a E
    refine zp E (by first | exact zAf (q := 4) E rfl rfl rfl | exact zAi (q := 4) E rfl rfl rfl) ?_; clear E a; intro a E
    refine zp E (by first | exact zAn E rfl rfl rfl (S.get (by repeat (first | exact pk1 | apply zAa))) rfl | exact zAj E rfl rfl rfl (by assumption)) ?_; clear E a; intro a E
    refine zp E (zAe E rfl rfl) ?_; clear E a; intro a E
    refine zAo rfl (zCk (cells := [_]) E S rfl rfl (by decide) rfl rfl rfl rfl rfl (by decide) rfl ?_); clear E S a; intro a w b32 E S
    refine zAo rfl (zCi (by' := 8) E S rfl rfl (by decide) rfl rfl hCd (by repeat (first | exact pk1 | apply zAa)) ((zCr (g := b32) (T := 46) (xs := [ptr d]) (s := 1) (m := 1) rfl (by simp [Value.oneCell']) (by omega) 1).src (S.stab.at (by repeat (first | exact mm1 | assumption | apply List.Mem.tail))) rfl) rfl rfl rfl rfl rfl rfl (by simp only [maxLen]; omega) (by omega) ?_); clear E S a; intro a w v33 C33 E S hB33
    obtain ⟨ad33, c33, rfl⟩ := hB33.slice
    refine zp E (zAl E rfl rfl) ?_; clear E a; intro a E
    refine zp E (by first | exact zAf (q := 4) E rfl rfl rfl | exact zAi (q := 4) E rfl rfl rfl) ?_; clear E a; intro a E
    refine zAo rfl (zBg E S rfl rfl rfl rfl rfl rfl (by repeat (first | exact pk1 | apply zAa)) (by first | exact Nat.le_of_ble_eq_true rfl | (simp; done) | (simp; omega)) ?_); clear E S a; intro a w E S; try dsimp only [List.set] at S
    refine wpList_nil ?_
    refine zAh hK ?_; clear hK; clear K
    refine wp_seq_k ?_; intro K hK
    refine zAc ?_
    refine zp E (zAe E rfl rfl) ?_; clear E a; intro a E
    iterate 2 (refine zp E (zAg E rfl rfl) ?_; clear E a; intro a E)
    refine wpList_nil ?_
    refine zAh hK ?_; clear hK; clear K
    refine wp_ret ?_
    refine ret2 E rfl rfl rfl ?_
    exact ⟨_, rfl, d, gp, gn, _, C33, rfl, hB33, ((S.del (A := [(b32, _)]) (by repeat (first | exact pk1 | apply zAa))).front4 (A := [(p, _)]) (by repeat (first | exact pk1 | apply zAa)) (B := C33) (by repeat (first | exact pk1 | apply zAa)) (C := [(d, _)]) (by repeat (first | exact pk1 | apply zAa)) (D := [(gp, _)]) (by repeat (first | exact pk1 | apply zAa))).tr⟩
theorem dread_ret (d p gp gn : Nat) (f : Bool) (s : Pw) (vw vd : Value) (nw : List UInt8) (hn : nw.length ≤ 1048576) (at_ many : Int) (ha : -9223372036854775808 ≤ at_ ∧ at_ ≤ 9223372036854775807) (w0 : World)
    (H : Hp w0 [[(p, pcl s vw vd)], [(d, dcl p gp gn nw.length f)], [(gn, cel (byt nw) 5)]]) :
    Ret Tryz.prog 45 #[ptr d, .int .i64 at_, .int .i64 many] w0 fun u w' =>
      (s.off = true ∧ u = .tuple #[.slice none 0 0, .int .i64 5] ∧ Trs w0 w' [[(p, pcl s vw vd)], [(d, dcl p gp gn nw.length f)], [(gn, cel (byt nw) 5)]] [[(p, pcl s vw vd)], [(d, dcl p gp gn nw.length f)], [(gn, cel (byt nw) 5)]]) ∨
      (s.off = false ∧ f = true ∧ u = .tuple #[.slice none 0 0, .int .i64 30] ∧ Trs w0 w' [[(p, pcl s vw vd)], [(d, dcl p gp gn nw.length f)], [(gn, cel (byt nw) 5)]] [[(p, pcl s vw vd)], [(d, dcl p gp gn nw.length f)], [(gn, cel (byt nw) 5)]]) ∨
      (s.off = false ∧ f = false ∧ ¬ (0 ≤ at_ ∧ 0 ≤ many ∧ at_ ≤ (nw.length / 128 : Nat) ∧ many ≤ (nw.length / 128 : Nat) - at_) ∧ u = .tuple #[.slice none 0 0, .int .i64 1] ∧ Trs w0 w' [[(p, pcl s vw vd)], [(d, dcl p gp gn nw.length f)], [(gn, cel (byt nw) 5)]] [[(p, pcl s vw vd)], [(d, dcl p gp gn nw.length f)], [(gn, cel (byt nw) 5)]]) ∨
      (s.off = false ∧ f = false ∧ (0 ≤ at_ ∧ 0 ≤ many ∧ at_ ≤ (nw.length / 128 : Nat) ∧ many ≤ (nw.length / 128 : Nat) - at_) ∧ ∃ g, u = .tuple #[.slice (some ⟨g, 0, none⟩) (many.toNat * 128) (many.toNat * 128), .int .i64 0] ∧
        Trs w0 w' [[(p, pcl s vw vd)], [(d, dcl p gp gn nw.length f)], [(gn, cel (byt nw) 5)]] [[(g, cel (byt ((nw.drop (at_.toNat * 128)).take (many.toNat * 128))) 5)], [(p, pcl s vw vd)], [(d, dcl p gp gn nw.length f)], [(gn, cel (byt nw) 5)]]) := by
  have S := St.begin H
  refine zEs 33 Tryz.func45 rfl rfl (by decide) ?_; intro a E
  refine wp_seq_k ?_; intro K hK
  refine zAc ?_
  iterate 2 (refine zp E (zAg E rfl rfl) ?_; clear E a; intro a E)
  refine wpList_nil ?_
  refine zAh hK ?_; clear hK; clear K
  iterate 2 (refine wp_seq_k ?_; intro K hK)
  refine zAc ?_
  refine zp E (zAe E rfl rfl) ?_; clear E a; intro a E
  refine zAr E rfl rfl (by decide) rfl Tryz.func71 rfl (by kernel_rfl) rfl (down_ret d p gp gn _ f s vw vd _ (S.hp.sel (zAd (by repeat (first | exact pk1 | apply zAa)) (zAd (by repeat (first | exact pk1 | apply zAa)) (zAk _))))) ?_
  rintro v11 w ⟨rfl, hT⟩; clear E a; intro a E
  have S := S.call2 (zAd (by repeat (first | exact pk1 | apply zAa)) (zAd (by repeat (first | exact pk1 | apply zAa)) (zAk _))) hT
  have S := S.front3 (A := [(p, _)]) (by repeat (first | exact pk1 | apply zAa)) (B := [(d, _)]) (by repeat (first | exact pk1 | apply zAa)) (C := [(gn, _)]) (by repeat (first | exact pk1 | apply zAa))
  refine zp E (zAg E rfl rfl) ?_; clear E a; intro a E
  refine wpList_nil ?_
  refine zAh hK ?_; clear hK; clear K
  refine wp_seq_k ?_; intro K hK
  refine zAc ?_
  refine zp E (zAe E rfl rfl) ?_; clear E a; intro a E
  refine zp E (by first | exact zCu E rfl rfl rfl | exact zAz E rfl rfl rfl rfl | exact zBj E rfl rfl rfl rfl | exact zBd E rfl rfl rfl) ?_; clear E a; intro a E
  refine wpList_nil ?_
  refine zAh hK ?_; clear hK; clear K
  refine zBl E rfl (fun hb => ?_) (fun hb => ?_)
  · replace hb := Nrm.nrm hb
    refine wp_seq_k ?_; intro K hK
    refine zAc ?_
    refine zp E (zAe E rfl rfl) ?_; clear E a; intro a E
    iterate 2 (refine zp E (zAg E rfl rfl) ?_; clear E a; intro a E)
    refine wpList_nil ?_
    refine zAh hK ?_; clear hK; clear K
    refine wp_ret ?_
    refine zBi ?_; clear hK; clear K
    refine ret2 E rfl rfl rfl ?_
    rcases hs : s.off with _ | _
    · rcases hf : f with _ | _
      · simp [hs, hf] at hb
      · exact ⟨_, rfl, .inr (.inl ⟨rfl, rfl, by simp, by rw [← hf]; exact S.tr⟩)⟩
    · exact ⟨_, rfl, .inl ⟨rfl, by simp, S.tr⟩⟩
  · replace hb := Nrm.nrm hb
    refine wp_skip ?_
    refine zAh hK ?_; clear hK; clear K
    iterate 2 (refine wp_seq_k ?_; intro K hK)
    have hs : s.off = false := by cases h : s.off; rfl; simp [h] at hb
    have hf : f = false := by cases h : f; rfl; simp [hs, h] at hb
    subst hf
    refine zAc ?_
    iterate 3 (refine zp E (zAe E rfl rfl) ?_; clear E a; intro a E)
    refine zAr E rfl rfl (by decide) rfl Tryz.func72 rfl (by kernel_rfl) rfl (has_ret d p gp gn _ false at_ many hn ha _ (S.hp.sel (zAd (by repeat (first | exact pk1 | apply zAa)) (zAk _)))) ?_
    rintro v18 w ⟨rfl, hT⟩; clear E a; intro a E
    have S := S.call1 (zAd (by repeat (first | exact pk1 | apply zAa)) (zAk _)) hT
    refine zp E (zEg E rfl rfl) ?_; clear E a; intro a E
    refine wpList_nil ?_
    refine zAh hK ?_; clear hK; clear K
    refine zBl E rfl (fun hb => ?_) (fun hb => ?_)
    · replace hb := Nrm.nrm hb
      have hno : ¬ (0 ≤ at_ ∧ 0 ≤ many ∧ at_ ≤ (nw.length / 128 : Nat) ∧ many ≤ (nw.length / 128 : Nat) - at_) := (by intro q; rw [decide_eq_true q] at hb; simp at hb)
      refine wp_seq_k ?_; intro K hK
      refine zAc ?_
      iterate 2 (refine zp E (zAg E rfl rfl) ?_; clear E a; intro a E)
      refine wpList_nil ?_
      refine zAh hK ?_; clear hK; clear K
      refine wp_ret ?_
      refine zBi ?_; clear hK; clear K
      refine ret2 E rfl rfl rfl ?_
      exact ⟨_, rfl, .inr (.inr (.inl ⟨hs, rfl, hno, rfl, (S.front3 (A := [(p, _)]) (by repeat (first | exact pk1 | apply zAa)) (B := [(d, _)]) (by repeat (first | exact pk1 | apply zAa)) (C := [(gn, _)]) (by repeat (first | exact pk1 | apply zAa))).tr⟩))⟩
    · replace hb := Nrm.nrm hb
      have hyes : 0 ≤ at_ ∧ 0 ≤ many ∧ at_ ≤ (nw.length / 128 : Nat) ∧ many ≤ (nw.length / 128 : Nat) - at_ := (by apply Decidable.byContradiction; intro q; rw [decide_eq_false q] at hb; simp at hb)
      refine wp_skip ?_
      refine zAh hK ?_; clear hK; clear K
      refine wp_seq_k ?_; intro K hK
      obtain ⟨an, rfl⟩ : ∃ an : Nat, at_ = an := ⟨at_.toNat, by omega⟩
      obtain ⟨mn, rfl⟩ : ∃ mn : Nat, many = mn := ⟨many.toNat, by omega⟩
      have hfit : an * 128 + mn * 128 ≤ nw.length := by omega
      refine zAc ?_
      refine zp E (zAe E rfl rfl) ?_; clear E a; intro a E
      refine zp E (zEd E rfl rfl rfl (by first | exact zGb (y := 128) (by omega) | exact w_in (by omega) | exact rfl)) ?_; clear E a; intro a E
      refine zAo rfl (zDq (by' := 1) E S rfl rfl (by decide) rfl rfl rfl rfl rfl rfl rfl rfl rfl rfl rfl (by first | exact mkb (by omega) | exact mkb8 (by omega) | exact mkbn rfl (by omega)) (by simp only [maxLen]; omega) ?_); clear E S a; intro a w g22 E S
      refine zp E (zAg E rfl rfl) ?_; clear E a; intro a E
      refine wpList_nil ?_
      refine zAh hK ?_; clear hK; clear K
      refine wp_seq_k ?_; intro K hK
      refine zAc ?_
      iterate 2 (refine zp E (zAe E rfl rfl) ?_; clear E a; intro a E)
      refine zp E (zAl E rfl rfl) ?_; clear E a; intro a E
      refine zp E (by first | exact zAf (q := 2) E rfl rfl rfl | exact zAi (q := 2) E rfl rfl rfl) ?_; clear E a; intro a E
      refine zp E (by first | exact zAn E rfl rfl rfl (S.get (by repeat (first | exact pk1 | apply zAa))) rfl | exact zAj E rfl rfl rfl (by assumption)) ?_; clear E a; intro a E
      refine zp E (zAe E rfl rfl) ?_; clear E a; intro a E
      refine zp E (zEd E rfl rfl rfl (by first | exact zGb (y := 128) (by omega) | exact w_in (by omega) | exact rfl)) ?_; clear E a; intro a E
      refine zp E (zIl (lo := an * 128) (s := 1) E rfl rfl rfl rfl rfl rfl (by omega)) ?_; clear E a; intro a E
      obtain ⟨ad3, c3, he3, hc3, hR3⟩ := (zCr (g := gn) (T := 5) (xs := byt nw) (s := 1) (m := nw.length) (by rw [zBm]; omega) (zDv nw) (by omega) nw.length).tailc (n := an * 128) (by omega) (Nat.le_refl _)
      rw [Nat.mul_one, zFv] at hR3
      rw [he3] at E
      have hdl : (nw.drop (an * 128)).length = nw.length - an * 128 := List.length_drop
      refine zAo rfl (zGk E S rfl rfl (by decide) rfl rfl (by repeat (first | exact pk1 | apply zAa)) (hR3.copySrc (S.stab.at (by repeat (first | exact mm1 | assumption | apply List.Mem.tail))) rfl) rfl rfl (by rw [List.length_replicate]; omega) ?_); clear E S a; intro a w E S
      have hcp : (List.replicate (mn * 128) (Value.int .u8 0)).take 0 ++ (byt (nw.drop (an * 128))).take (min (nw.length - an * 128) (mn * 128)) ++ (List.replicate (mn * 128) (Value.int .u8 0)).drop (0 + min (nw.length - an * 128) (mn * 128)) = byt ((nw.drop (an * 128)).take (mn * 128)) := by
        have h := copy_head (l := List.replicate (mn * 128) (Value.int .u8 0)) (ys := byt (nw.drop (an * 128))) (k := mn * 128) (by simp) (by rw [zBm]; omega)
        rw [zBm, hdl] at h
        rw [h, zFu]
      rw [hcp] at S
      refine wpList_nil ?_
      refine zAh hK ?_; clear hK; clear K
      refine wp_seq_k ?_; intro K hK
      replace E := E.keep (e' := [(6, _), (7, _), (9, _)]) (zAb rfl (zAb rfl (zAb rfl (zAp))))
      refine zAc ?_
      refine zp E (zAe E rfl rfl) ?_; clear E a; intro a E
      iterate 2 (refine zp E (zAg E rfl rfl) ?_; clear E a; intro a E)
      refine wpList_nil ?_
      refine zAh hK ?_; clear hK; clear K
      refine wp_ret ?_
      refine ret2 E rfl rfl rfl ?_
      exact ⟨_, rfl, .inr (.inr (.inr ⟨hs, rfl, hyes, g22, by simp, (S.front4 (A := [(g22, _)]) (by repeat (first | exact pk1 | apply zAa)) (B := [(p, _)]) (by repeat (first | exact pk1 | apply zAa)) (C := [(d, _)]) (by repeat (first | exact pk1 | apply zAa)) (D := [(gn, _)]) (by repeat (first | exact pk1 | apply zAa))).tr⟩))⟩
end Go.Proofs.YtidhehcjafoneaaGreatDoor
namespace Go.Sl
abbrev wl (ws : List Wt) : List Value := ws.flatMap Wt.lay
theorem zFp (ws : List Wt) : (wl ws).length = ws.length * 130 := zJi Wt.lay_len
theorem wl_one (ws : List Wt) : ∀ u ∈ wl ws, u.oneCell' = true := fun u hu => by
  obtain ⟨x, _, hx⟩ := List.mem_flatMap.1 hu
  exact x.lay_one u hx
def outW (d : Nat) (ws : List Wt) : List Wt := ws.filter fun x => decide (x.d ≠ d)
theorem outW_take (d : Nat) (ws : List Wt) {i : Nat} (hi : i < ws.length) : outW d (ws.take (i + 1)) = outW d (ws.take i) ++ (if ws[i].d ≠ d then [ws[i]] else []) := by
  rw [← List.take_append_getElem hi, outW, outW, List.filter_append]
  congr 1
  simp only [List.filter_cons, List.filter_nil]
  by_cases h : ws[i].d ≠ d <;> simp [h]
theorem zIn (d : Nat) (ws : List Wt) : (outW d ws).length ≤ ws.length := List.length_filter_le _ _
structure Mv (ws : List Wt) (r L : List Value) (ks : List Wt) (i c : Nat) : Prop where
  len : L.length = c * 130
  hd : L.take (ks.length * 130) = wl ks
  tl : L.drop (i * 130) = wl (ws.drop i) ++ r
theorem Mv.cell {ws : List Wt} {r L : List Value} {ks : List Wt} {i c : Nat} (h : Mv ws r L ks i c) (hi : i < ws.length) : (L.drop (i * 130)).take 130 = ws[i].lay := by
  rw [h.tl, List.drop_eq_getElem_cons hi, wl, List.flatMap_cons, List.append_assoc, List.take_left' (Wt.lay_len _)]
theorem Mv.skip {ws : List Wt} {r L : List Value} {ks : List Wt} {i c : Nat} (h : Mv ws r L ks i c) (hi : i < ws.length) : Mv ws r L ks (i + 1) c := by
  refine ⟨h.len, h.hd, ?_⟩
  rw [Nat.add_mul, Nat.one_mul, ← List.drop_drop, h.tl, List.drop_eq_getElem_cons hi, wl, List.flatMap_cons, List.append_assoc, List.drop_left' (Wt.lay_len _)]
theorem Mv.put {ws : List Wt} {r L : List Value} {ks : List Wt} {i c : Nat} (h : Mv ws r L ks i c) (hi : i < ws.length) (hk : ks.length ≤ i) (hc : i + 1 ≤ c) :
    Mv ws r (L.take (ks.length * 130) ++ ws[i].lay ++ L.drop ((ks.length + 1) * 130)) (ks ++ [ws[i]]) (i + 1) c := by
  have hl := h.len
  have hw := Wt.lay_len ws[i]
  have h2 := (h.skip hi).tl
  have hA : (L.take (ks.length * 130) ++ ws[i].lay).length = (ks.length + 1) * 130 := by rw [List.length_append, List.length_take, hw]; omega
  refine ⟨?_, ?_, ?_⟩
  · rw [List.length_append, hA, List.length_drop]; omega
  · rw [List.length_append, List.length_singleton, List.take_left' hA, h.hd, wl, wl, List.flatMap_append]; simp
  · rw [show (i + 1) * 130 = (ks.length + 1) * 130 + ((i + 1) * 130 - (ks.length + 1) * 130) by omega, ← List.drop_drop, List.drop_left' hA, List.drop_drop, show (ks.length + 1) * 130 + ((i + 1) * 130 - (ks.length + 1) * 130) = (i + 1) * 130 by omega, h2]
def Bks (As : List zAs) (b : Nat) : Prop := ∃ C ∈ As, ∃ l T, (b, cel l T) ∈ C
theorem Bks.bk {As : List zAs} {b : Nat} {w : World} (h : Bks As b) (S : Stab As w) : Bk w b := by
  obtain ⟨C, hC, l, T, hm⟩ := h
  exact ⟨l, T, S C hC _ hm⟩
theorem Bks.sub {As Bs : List zAs} {b : Nat} (h : Bks As b) (k : ∀ C ∈ As, C ∈ Bs) : Bks Bs b := by
  obtain ⟨C, hC, r⟩ := h; exact ⟨C, k C hC, r⟩
end Go.Sl
namespace Go.Proofs.YtidhehcjafoneaaGreatDoor
open Go.Sl
set_option maxRecDepth 10000
theorem drop_nil (p : Nat) (s : Pw) (vd : Value) (d : Nat) (w0 : World) (H : Hp w0 [[(p, pcl s (.slice none 0 0) vd)]]) :
    Ret Tryz.prog 38 #[ptr p, ptr d] w0 fun _ w' => Trs w0 w' [[(p, pcl s (.slice none 0 0) vd)]] [[(p, pcl s (.slice none 0 0) vd)]] := by
  have S := St.begin H
  refine zCy 34 Tryz.func38 rfl rfl (by decide) ?_; intro a E
  refine wp_seq_k ?_; intro K hK
  refine zAc ?_
  refine zp E (zAe E rfl rfl) ?_; clear E a; intro a E
  refine zp E (zAl E rfl rfl) ?_; clear E a; intro a E
  refine zp E (by first | exact zAf (q := 0) E rfl rfl rfl | exact zAi (q := 0) E rfl rfl rfl) ?_; clear E a; intro a E
  refine zp E (by first | exact zAn E rfl rfl rfl (S.get (by repeat (first | exact pk1 | apply zAa))) rfl | exact zAj E rfl rfl rfl (by assumption)) ?_; clear E a; intro a E
  refine zp E (zGd (s := 130) (hi := 0) E rfl rfl rfl rfl rfl rfl (by omega)) ?_; clear E a; intro a E
  refine zp E (zAg E rfl rfl) ?_; clear E a; intro a E
  refine wpList_nil ?_
  refine zAh hK ?_; clear hK; clear K
  iterate 2 (refine wp_seq_k ?_; intro K hK)
  refine zAc ?_
  refine zp E (zAe E rfl rfl) ?_; clear E a; intro a E
  refine zp E (zAl E rfl rfl) ?_; clear E a; intro a E
  refine zp E (by first | exact zAf (q := 0) E rfl rfl rfl | exact zAi (q := 0) E rfl rfl rfl) ?_; clear E a; intro a E
  refine zp E (by first | exact zAn E rfl rfl rfl (S.get (by repeat (first | exact pk1 | apply zAa))) rfl | exact zAj E rfl rfl rfl (by assumption)) ?_; clear E a; intro a E
  refine zp E (by first | exact zCa E rfl rfl rfl | exact zBa E rfl rfl rfl | exact zAt E rfl rfl rfl) ?_; clear E a; intro a E
  refine zp E (zAe E rfl rfl) ?_; clear E a; intro a E
  refine wpList_nil ?_
  refine zAh hK ?_; clear hK; clear K
  refine wp_block ?_
  refine wp_loop_ghost (fun (m : Nat) (a : Act) (w' : World) => m = 0 ∧ St w0 [[(p, pcl s (.slice none 0 0) vd)]] w' [[(p, pcl s (.slice none 0 0) vd)]] ∧ Fr a 34 [(0, ptr p), (4, .slice none 0 0), (16, .int .i64 0), (17, .int .i64 0)]) (0) ?_ ?_
  · exact ⟨rfl, S, E.keep (zAb rfl (zAb rfl (zAb rfl (zAb rfl zAp))))⟩
  clear E; clear a; (try clear S); rintro m a w ⟨rfl, S, E⟩
  refine wp_seq_k ?_; intro K hK
  refine zAc ?_
  refine zp E (zCb E rfl rfl rfl) ?_; clear E a; intro a E
  refine wpList_nil ?_
  refine zAh hK ?_; clear hK; clear K
  refine wp_seq_k ?_; intro K hK
  refine zBl E rfl (fun hb => ?_) (fun hb => ?_)
  · replace hb := Nrm.nrm hb
    exfalso; omega
  · replace hb := Nrm.nrm hb
    refine wp_exit ?_
    refine zBb ?_; clear hK; clear K
    refine zBb ?_
    refine zCm ?_
    refine zAh hK ?_; clear hK; clear K
    refine zAc ?_
    iterate 2 (refine zp E (zAe E rfl rfl) ?_; clear E a; intro a E)
    refine zp E (zAl E rfl rfl) ?_; clear E a; intro a E
    refine zp E (by first | exact zAf (q := 0) E rfl rfl rfl | exact zAi (q := 0) E rfl rfl rfl) ?_; clear E a; intro a E
    refine zAo rfl (zBg E S rfl rfl rfl rfl rfl rfl (by repeat (first | exact pk1 | apply zAa)) (by first | exact Nat.le_of_ble_eq_true rfl | (simp; done) | (simp; omega)) ?_); clear E S a; intro a w E S; try dsimp only [List.set] at S
    refine wpList_nil ?_
    refine end0 E rfl ?_
    exact ⟨_, rfl, S.tr⟩
theorem dropp_blk (p : Nat) (s : Pw) (vd : Value) (ws : List Wt) (g c : Nat) (r : List Value) (hc : ws.length ≤ c) (hcm : c ≤ maxLen) (hlen : (wl ws ++ r).length = c * 130) (d : Nat) (As : List zAs) (hB : ∀ x ∈ ws, x.d = d ∨ (Bks As x.d ∧ Bks As d)) (w0 : World)
    (H : Hp w0 ([(p, pcl s (.slice (some ⟨g, 0, none⟩) ws.length c) vd)] :: [(g, cel (wl ws ++ r) 103)] :: As)) :
    Ret Tryz.prog 38 #[ptr p, ptr d] w0 fun _ w' => ∃ L, L.length = c * 130 ∧ L.take ((outW d ws).length * 130) = wl (outW d ws) ∧ Trs w0 w' ([(p, pcl s (.slice (some ⟨g, 0, none⟩) ws.length c) vd)] :: [(g, cel (wl ws ++ r) 103)] :: As) ([(p, pcl s (.slice (some ⟨g, 0, none⟩) (outW d ws).length c) vd)] :: [(g, cel L 103)] :: As) := by
  have S := St.begin H
  simp only [maxLen] at hcm
  refine zCy 34 Tryz.func38 rfl rfl (by decide) ?_; intro a E
  refine wp_seq_k ?_; intro K hK
  refine zAc ?_
  refine zp E (zAe E rfl rfl) ?_; clear E a; intro a E
  refine zp E (zAl E rfl rfl) ?_; clear E a; intro a E
  refine zp E (by first | exact zAf (q := 0) E rfl rfl rfl | exact zAi (q := 0) E rfl rfl rfl) ?_; clear E a; intro a E
  refine zp E (by first | exact zAn E rfl rfl rfl (S.get (by repeat (first | exact pk1 | apply zAa))) rfl | exact zAj E rfl rfl rfl (by assumption)) ?_; clear E a; intro a E
  refine zp E (zGd (s := 130) (hi := 0) E rfl rfl rfl rfl rfl rfl (by omega)) ?_; clear E a; intro a E
  rw [show sliced (some ⟨g, 0, none⟩) 0 0 c 130 = .slice (some ⟨g, 0, none⟩) 0 c by unfold sliced; by_cases h : c = 0 <;> simp [h, Addr.add]] at E
  refine zp E (zAg E rfl rfl) ?_; clear E a; intro a E
  refine wpList_nil ?_
  refine zAh hK ?_; clear hK; clear K
  iterate 2 (refine wp_seq_k ?_; intro K hK)
  refine zAc ?_
  refine zp E (zAe E rfl rfl) ?_; clear E a; intro a E
  refine zp E (zAl E rfl rfl) ?_; clear E a; intro a E
  refine zp E (by first | exact zAf (q := 0) E rfl rfl rfl | exact zAi (q := 0) E rfl rfl rfl) ?_; clear E a; intro a E
  refine zp E (by first | exact zAn E rfl rfl rfl (S.get (by repeat (first | exact pk1 | apply zAa))) rfl | exact zAj E rfl rfl rfl (by assumption)) ?_; clear E a; intro a E
  refine zp E (by first | exact zCa E rfl rfl rfl | exact zBa E rfl rfl rfl | exact zAt E rfl rfl rfl) ?_; clear E a; intro a E
  refine zp E (zAe E rfl rfl) ?_; clear E a; intro a E
  refine wpList_nil ?_
  refine zAh hK ?_; clear hK; clear K
  refine wp_block ?_
  refine wp_loop_ghost (fun (m : Nat) (a : Act) (w' : World) => ∃ (i : Nat) (L : List Value), m = ws.length - i ∧ i ≤ ws.length ∧ Mv ws r L (outW d (ws.take i)) i c ∧ St w0 ([(p, pcl s (.slice (some ⟨g, 0, none⟩) ws.length c) vd)] :: [(g, cel (wl ws ++ r) 103)] :: As) w' ([(p, pcl s (.slice (some ⟨g, 0, none⟩) ws.length c) vd)] :: [(g, cel L 103)] :: As) ∧ Fr a 34 [(0, ptr p), (1, ptr d), (4, .slice (some ⟨g, 0, none⟩) (outW d (ws.take i)).length c), (15, .slice (some ⟨g, 0, none⟩) ws.length c), (16, .int .i64 ws.length), (17, .int .i64 i)]) (ws.length - 0) ?_ ?_
  · exact ⟨0, wl ws ++ r, rfl, by omega, ⟨hlen, by simp [outW], by simp⟩, S, E.keep (zAb rfl (zAb rfl (zAb rfl (zAb rfl (zAb rfl (zAb rfl zAp))))))⟩
  clear E; clear a; (try clear S); rintro m a w ⟨i, L, rfl, hi, hM, S, E⟩
  refine wp_seq_k ?_; intro K hK
  refine zAc ?_
  refine zp E (zCb E rfl rfl rfl) ?_; clear E a; intro a E
  refine wpList_nil ?_
  refine zAh hK ?_; clear hK; clear K
  refine wp_seq_k ?_; intro K hK
  refine zBl E rfl (fun hb => ?_) (fun hb => ?_)
  · replace hb := Nrm.nrm hb
    refine wp_skip ?_
    refine zAh hK ?_; clear hK; clear K
    refine wp_seq_k ?_; intro K hK
    refine wp_block ?_
    refine wp_seq_k ?_; intro K hK
    have hil : i < ws.length := by omega
    have hkl : (outW d (ws.take i)).length ≤ i := Nat.le_trans (zIn d _) (by rw [List.length_take]; omega)
    have hst := outW_take d ws hil
    have hbk := hB _ (List.getElem_mem hil)
    obtain ⟨x, hx⟩ : ∃ x, x = ws[i]'hil := ⟨_, rfl⟩
    have hcell := hM.cell hil
    have hput := hM.put hil hkl (by omega)
    rw [← hx] at hst hbk hcell hput
    refine zAc ?_
    refine zp E (zBn (i := i) (s := 130) E rfl rfl rfl rfl rfl rfl (by omega)) ?_; clear E a; intro a E
    refine zp E (zBw (vs := x.lay) E rfl rfl rfl (S.get (show List.Perm _ ([(g, _)] :: _) from (by repeat (first | exact pk1 | apply zAa)))) (Wt.lay_len x) (by rw [Wt.lay_len, Nat.zero_add]; exact hcell)) ?_; clear E a; intro a E
    refine zAo rfl (zCc E S rfl rfl (by decide) rfl rfl rfl ?_); clear E S a; intro a w b6 E S
    refine zAo rfl (zEw E S rfl rfl rfl rfl x.lay_one rfl (Wt.lay_len x) (by repeat (first | exact pk1 | apply zAa)) (by rw [Wt.lay_len]; rfl) ?_); clear E S a; intro a w E S
    refine wpList_nil ?_
    refine zAh hK ?_; clear hK; clear K
    refine wp_seq_k ?_; intro K hK
    refine zAc ?_
    refine zp E (by first | exact zAf (q := 0) E rfl rfl rfl | exact zAi (q := 0) E rfl rfl rfl) ?_; clear E a; intro a E
    refine zp E (zAj E rfl rfl rfl (zCt (S.get (show List.Perm _ ([(b6, _)] :: _) from (by repeat (first | exact pk1 | apply zAa)))) (v := ptr x.d) rfl)) ?_; clear E a; intro a E
    refine zp E (zAe E rfl rfl) ?_; clear E a; intro a E
    refine zp E (rn_neq_ptrs (i := x.d) (j := d) E rfl rfl rfl rfl rfl (by decide) (hbk.imp_right fun h => ⟨(h.1.sub (fun _ h => by repeat (first | exact h | apply List.Mem.tail))).bk S.stab, (h.2.sub (fun _ h => by repeat (first | exact h | apply List.Mem.tail))).bk S.stab⟩)) ?_; clear E a; intro a E
    refine wpList_nil ?_
    refine zAh hK ?_; clear hK; clear K
    refine zBl E rfl (fun hb => ?_) (fun hb => ?_)
    · replace hb := Nrm.nrm hb
      have hne : x.d ≠ d := (by simpa using hb)
      refine zAc ?_
      refine zp E (zAe E rfl rfl) ?_; clear E a; intro a E
      refine zp E (zEq E rfl rfl rfl (S.get (show List.Perm _ ([(b6, _)] :: _) from (by repeat (first | exact pk1 | apply zAa)))) (Wt.lay_len x)) ?_; clear E a; intro a E
      refine zAo rfl (zCk (cells := x.lay) E S rfl rfl (by decide) rfl rfl rfl rfl rfl (by decide) (fill_one (by kernel_rfl) ((Wt.lay_len x).trans (by kernel_rfl))) ?_); clear E S a; intro a w b27 E S
      refine zAo rfl (wp_append_in E S rfl rfl (by decide) rfl rfl (by repeat (first | exact pk1 | apply zAa)) (by omega) (by rw [hM.len]; omega) ((zCr (g := b27) (T := 103) (xs := x.lay) (s := 130) (m := 1) (Wt.lay_len x) x.lay_one (by omega) 1).src (S.stab.at (by repeat (first | exact mm1 | assumption | apply List.Mem.tail))) rfl) rfl rfl rfl ?_); clear E S a; intro a w E S
      refine zp E (zAg E rfl rfl) ?_; clear E a; intro a E
      refine wpList_nil ?_
      refine zBf ?_
      refine zAh hK ?_; clear hK; clear K
      refine zAc ?_
      refine zp E (zBu E rfl rfl rfl (by first | exact zCj (y := 1) (by omega) | exact w_in (by omega) | exact zBy (by omega) | exact rfl)) ?_; clear E a; intro a E
      refine zp E (zAe E rfl rfl) ?_; clear E a; intro a E
      refine wpList_nil ?_
      refine zBe ?_
      first
      | (rw [if_pos hne] at hst
         have hl : (outW d (ws.take (i + 1))).length = (outW d (ws.take i)).length + 1 := by rw [hst]; simp
         rw [← hl] at E
         exact ⟨_, by omega, i + 1, _, rfl, by omega, by rw [hst]; exact hput, ((S.del (A := [(b27, _)]) (by repeat (first | exact pk1 | apply zAa))).del (A := [(b6, _)]) (by repeat (first | exact pk1 | apply zAa))).front2 (A := [(p, _)]) (by repeat (first | exact pk1 | apply zAa)) (B := [(g, _)]) (by repeat (first | exact pk1 | apply zAa)), E.keep (zAb rfl (zAb rfl (zAb rfl (zAb rfl (zAb rfl (zAb rfl zAp))))))⟩)
      | (rw [if_neg (fun q => q heq), List.append_nil] at hst
         rw [← hst] at E
         exact ⟨_, by omega, i + 1, _, rfl, by omega, by rw [hst]; exact hM.skip hil, (S.del (A := [(b6, _)]) (by repeat (first | exact pk1 | apply zAa))).front2 (A := [(p, _)]) (by repeat (first | exact pk1 | apply zAa)) (B := [(g, _)]) (by repeat (first | exact pk1 | apply zAa)), E.keep (zAb rfl (zAb rfl (zAb rfl (zAb rfl (zAb rfl (zAb rfl zAp))))))⟩)
    · replace hb := Nrm.nrm hb
      have heq : x.d = d := (by simpa using hb)
      refine wp_skip ?_
      refine zBf ?_
      refine zAh hK ?_; clear hK; clear K
      refine zAc ?_
      refine zp E (zBu E rfl rfl rfl (by first | exact zCj (y := 1) (by omega) | exact w_in (by omega) | exact zBy (by omega) | exact rfl)) ?_; clear E a; intro a E
      refine zp E (zAe E rfl rfl) ?_; clear E a; intro a E
      refine wpList_nil ?_
      refine zBe ?_
      first
      | (rw [if_pos hne] at hst
         have hl : (outW d (ws.take (i + 1))).length = (outW d (ws.take i)).length + 1 := by rw [hst]; simp
         rw [← hl] at E
         exact ⟨_, by omega, i + 1, _, rfl, by omega, by rw [hst]; exact hput, ((S.del (A := [(b27, _)]) (by repeat (first | exact pk1 | apply zAa))).del (A := [(b6, _)]) (by repeat (first | exact pk1 | apply zAa))).front2 (A := [(p, _)]) (by repeat (first | exact pk1 | apply zAa)) (B := [(g, _)]) (by repeat (first | exact pk1 | apply zAa)), E.keep (zAb rfl (zAb rfl (zAb rfl (zAb rfl (zAb rfl (zAb rfl zAp))))))⟩)
      | (rw [if_neg (fun q => q heq), List.append_nil] at hst
         rw [← hst] at E
         exact ⟨_, by omega, i + 1, _, rfl, by omega, by rw [hst]; exact hM.skip hil, (S.del (A := [(b6, _)]) (by repeat (first | exact pk1 | apply zAa))).front2 (A := [(p, _)]) (by repeat (first | exact pk1 | apply zAa)) (B := [(g, _)]) (by repeat (first | exact pk1 | apply zAa)), E.keep (zAb rfl (zAb rfl (zAb rfl (zAb rfl (zAb rfl (zAb rfl zAp))))))⟩)
  · replace hb := Nrm.nrm hb
    refine wp_exit ?_
    refine zBb ?_; clear hK; clear K
    refine zBb ?_
    refine zCm ?_
    refine zAh hK ?_; clear hK; clear K
    refine zAc ?_
    iterate 2 (refine zp E (zAe E rfl rfl) ?_; clear E a; intro a E)
    refine zp E (zAl E rfl rfl) ?_; clear E a; intro a E
    refine zp E (by first | exact zAf (q := 0) E rfl rfl rfl | exact zAi (q := 0) E rfl rfl rfl) ?_; clear E a; intro a E
    refine zAo rfl (zBg E S rfl rfl rfl rfl rfl rfl (by repeat (first | exact pk1 | apply zAa)) (by first | exact Nat.le_of_ble_eq_true rfl | (simp; done) | (simp; omega)) ?_); clear E S a; intro a w E S; try dsimp only [List.set] at S
    refine wpList_nil ?_
    refine end0 E rfl ?_
    obtain rfl : i = ws.length := by omega
    rw [List.take_length] at hM S
    exact ⟨_, rfl, L, hM.len, hM.hd, S.tr⟩
end Go.Proofs.YtidhehcjafoneaaGreatDoor
namespace Go.Sl
theorem zIo {l ys : List Value} {n : Nat} (hl : l.length = n) (hy : ys.length = n) : l.take 0 ++ ys.take (min n n) ++ l.drop (0 + min n n) = ys := by
  rw [Nat.min_self, Nat.zero_add, List.take_zero, List.nil_append, ← hl, List.drop_length, List.append_nil, hl, ← hy, List.take_length]
theorem wcopy (d a : Nat) (b : List UInt8) {i : Nat} (h : 128 * i + 128 ≤ b.length) :
    ([ptr d, .int .i64 a] ++ List.replicate 128 (.int .u8 0) : List Value).take 2 ++ (byt (b.drop (i * 128))).take (min (b.length - i * 128) 128) ++ ([ptr d, .int .i64 a] ++ List.replicate 128 (.int .u8 0) : List Value).drop (2 + min (b.length - i * 128) 128) = (mkW d a (secB b i)).lay := by
  rw [Nat.min_eq_right (by omega), show ([ptr d, .int .i64 a] ++ List.replicate 128 (.int .u8 0) : List Value).take 2 = [ptr d, .int .i64 a] from rfl, zFu, show ([ptr d, .int .i64 a] ++ List.replicate 128 (.int .u8 0) : List Value).drop (2 + 128) = [] from rfl, List.append_nil]
  show _ = [ptr d, .int .i64 a] ++ byt (pad (secB b i))
  rw [pad_id (zDj h), secB, Nat.mul_comm i 128]
end Go.Sl
namespace Go.Proofs.YtidhehcjafoneaaGreatDoor
open Go.Sl
set_option maxRecDepth 10000
theorem drop_ret (p : Nat) (s : Pw) (vw vd : Value) (ws : List Wt) (Cw : zAs) (hCw : Buf Cw 103 130 vw ws.length (wl ws)) (d : Nat) (As : List zAs) (hB : ∀ x ∈ ws, x.d = d ∨ (Bks As x.d ∧ Bks As d)) (w0 : World)
    (H : Hp w0 ([(p, pcl s vw vd)] :: Cw :: As)) :
    Ret Tryz.prog 38 #[ptr p, ptr d] w0 fun _ w' => ∃ vw' Cw', Buf Cw' 103 130 vw' (outW d ws).length (wl (outW d ws)) ∧ Trs w0 w' ([(p, pcl s vw vd)] :: Cw :: As) ([(p, pcl s vw' vd)] :: Cw' :: As) := by
  rcases hCw.2.2 with ⟨rfl, h0, rfl⟩ | ⟨g, c, r, rfl, rfl, hc, hcm, hcs⟩
  · obtain rfl := List.eq_nil_of_length_eq_zero h0
    refine (drop_nil p s vd d w0 (H.sel (zAd pk1 (zAk _)))).mono fun v w' hT => ?_
    have S := (St.begin H).call1 (zAd pk1 (zAk _)) hT
    exact ⟨_, [], Buf.nil _ _, S.tr⟩
  · refine (dropp_blk p s vd ws g c r hc hcm (by rw [List.length_append]; omega) d As hB w0 H).mono fun v w' ⟨L, h1, h2, hT⟩ => ?_
    refine ⟨_, _, ?_, hT⟩
    have hL : L = wl (outW d ws) ++ L.drop ((outW d ws).length * 130) := by rw [← h2, List.take_append_drop]
    have hle := zIn d ws
    exact ⟨zFp _, wl_one _, .inr ⟨g, c, L.drop ((outW d ws).length * 130), rfl, by rw [← hL], by omega, hcm, by rw [zFp, List.length_drop]; omega⟩⟩
theorem flush_ret (d p gp gn n : Nat) (f : Bool) (s : Pw) (vw vd : Value) (pl nw : List UInt8) (hpl : pl.length = n) (hnw : nw.length = n) (hn : n ≤ 1048576) (ws : List Wt) (Cw : zAs) (hCw : Buf Cw 103 130 vw ws.length (wl ws)) (As : List zAs) (hB : ∀ x ∈ ws, x.d = d ∨ Bks As x.d) (w0 : World)
    (H : Hp w0 ([(p, pcl s vw vd)] :: Cw :: [(d, dcl p gp gn n f)] :: [(gp, cel (byt pl) 5)] :: [(gn, cel (byt nw) 5)] :: As)) :
    Ret Tryz.prog 58 #[ptr d] w0 fun u w' =>
      ((s.off = true ∨ f = true) ∧ u = .int .i64 (if s.off then 5 else 30) ∧ Trs w0 w' ([(p, pcl s vw vd)] :: Cw :: [(d, dcl p gp gn n f)] :: [(gp, cel (byt pl) 5)] :: [(gn, cel (byt nw) 5)] :: As) ([(p, pcl s vw vd)] :: Cw :: [(d, dcl p gp gn n f)] :: [(gp, cel (byt pl) 5)] :: [(gn, cel (byt nw) 5)] :: As)) ∨
      (s.off = false ∧ f = false ∧ u = .int .i64 0 ∧ ∃ vw' Cw', Buf Cw' 103 130 vw' (outW d ws).length (wl (outW d ws)) ∧
        Trs w0 w' ([(p, pcl s vw vd)] :: Cw :: [(d, dcl p gp gn n f)] :: [(gp, cel (byt pl) 5)] :: [(gn, cel (byt nw) 5)] :: As) ([(p, pcl s vw' vd)] :: Cw' :: [(d, dcl p gp gn n f)] :: [(gp, cel (byt nw) 5)] :: [(gn, cel (byt nw) 5)] :: As)) := by
  have S := St.begin H
  refine zDc 24 Tryz.func58 rfl rfl (by decide) ?_; intro a E
  refine wp_seq_k ?_; intro K hK
  refine zAc ?_
  refine zp E (zAg E rfl rfl) ?_; clear E a; intro a E
  refine wpList_nil ?_
  refine zAh hK ?_; clear hK; clear K
  iterate 2 (refine wp_seq_k ?_; intro K hK)
  refine zAc ?_
  refine zp E (zAe E rfl rfl) ?_; clear E a; intro a E
  refine zAr E rfl rfl (by decide) rfl Tryz.func71 rfl (by kernel_rfl) rfl (down_ret d p gp gn _ f s vw vd _ (S.hp.sel (zAd (by repeat (first | exact pk1 | apply zAa)) (zAd (by repeat (first | exact pk1 | apply zAa)) (zAk _))))) ?_
  rintro v5 w ⟨rfl, hT⟩; clear E a; intro a E
  have S := (S.call2 (zAd (by repeat (first | exact pk1 | apply zAa)) (zAd (by repeat (first | exact pk1 | apply zAa)) (zAk _))) hT).front2 (A := [(p, _)]) (by repeat (first | exact pk1 | apply zAa)) (B := Cw) (by repeat (first | exact pk1 | apply zAa))
  refine zp E (zAg E rfl rfl) ?_; clear E a; intro a E
  refine wpList_nil ?_
  refine zAh hK ?_; clear hK; clear K
  refine wp_seq_k ?_; intro K hK
  refine zAc ?_
  refine zp E (zAe E rfl rfl) ?_; clear E a; intro a E
  refine zp E (by first | exact zCu E rfl rfl rfl | exact zAz E rfl rfl rfl rfl | exact zBj E rfl rfl rfl rfl | exact zBd E rfl rfl rfl) ?_; clear E a; intro a E
  refine wpList_nil ?_
  refine zAh hK ?_; clear hK; clear K
  refine zBl E rfl (fun hb => ?_) (fun hb => ?_)
  · replace hb := Nrm.nrm hb
    refine wp_seq_k ?_; intro K hK
    refine zAc ?_
    refine zp E (zAe E rfl rfl) ?_; clear E a; intro a E
    refine zp E (zAg E rfl rfl) ?_; clear E a; intro a E
    refine wpList_nil ?_
    refine zAh hK ?_; clear hK; clear K
    refine wp_ret ?_
    refine zBi ?_; clear hK; clear K
    refine ret1 E rfl rfl ?_
    exact ⟨_, rfl, .inl (by cases hs : s.off <;> cases hf : f <;> simp_all; all_goals exact S.tr)⟩
  · replace hb := Nrm.nrm hb
    refine wp_skip ?_
    refine zAh hK ?_; clear hK; clear K
    refine wp_seq_k ?_; intro K hK
    have hs : s.off = false := by cases h : s.off; rfl; simp [h] at hb
    have hf : f = false := by cases h : f; rfl; simp [hs, h] at hb
    subst hf
    have hR := zCr (g := gn) (T := 5) (xs := byt nw) (s := 1) (m := n) (by rw [zBm]; omega) (zDv nw) (by omega) n
    refine zBo S (.ofL [(0, 0), (1, 0), (2, 0), (3, 0), (4, 0), (5, 0), (6, 0), (7, 0), (8, 3)]) (by kernel_rfl) (by kernel_rfl) ?_
    clear S; intro w S
    refine zm E rfl (fun w h => zAe E rfl rfl) ?_; clear E a; intro a E
    refine zm E rfl (fun w h => zAl E rfl rfl) ?_; clear E a; intro a E
    refine zm E rfl (fun w h => by first | exact zAf (q := 1) E rfl rfl rfl | exact zAi (q := 1) E rfl rfl rfl) ?_; clear E a; intro a E
    refine zm E rfl (fun w h => by first | exact zAn E rfl rfl rfl (h.one (by repeat (first | exact mm1 | assumption | apply List.Mem.tail))) rfl | exact zAj E rfl rfl rfl (by assumption)) ?_; clear E a; intro a E
    refine zm E rfl (fun w h => zAe E rfl rfl) ?_; clear E a; intro a E
    refine zm E rfl (fun w h => zAl E rfl rfl) ?_; clear E a; intro a E
    refine zm E rfl (fun w h => by first | exact zAf (q := 2) E rfl rfl rfl | exact zAi (q := 2) E rfl rfl rfl) ?_; clear E a; intro a E
    refine zm E rfl (fun w h => by first | exact zAn E rfl rfl rfl (h.one (by repeat (first | exact mm1 | assumption | apply List.Mem.tail))) rfl | exact zAj E rfl rfl rfl (by assumption)) ?_; clear E a; intro a E
    refine zCq rfl rfl (zGk E S rfl rfl (by decide) rfl rfl (by repeat (first | exact pk1 | apply zAa)) (hR.copySrc (S.stab.at (by repeat (first | exact mm1 | assumption | apply List.Mem.tail))) rfl) rfl rfl (by rw [zBm]; omega) ?_); clear E S a; intro a w E S
    rw [zIo (by rw [zBm]; exact hpl) (by rw [zBm]; exact hnw)] at S
    refine zBs ?_
    refine zAh hK ?_; clear hK; clear K
    refine wp_seq_k ?_; intro K hK
    refine zAc ?_
    refine zp E (zAe E rfl rfl) ?_; clear E a; intro a E
    refine zp E (zAl E rfl rfl) ?_; clear E a; intro a E
    refine zp E (by first | exact zAf (q := 0) E rfl rfl rfl | exact zAi (q := 0) E rfl rfl rfl) ?_; clear E a; intro a E
    refine zp E (by first | exact zAn E rfl rfl rfl (S.get (by repeat (first | exact pk1 | apply zAa))) rfl | exact zAj E rfl rfl rfl (by assumption)) ?_; clear E a; intro a E
    refine zp E (zAe E rfl rfl) ?_; clear E a; intro a E
    refine zAr E rfl rfl (by decide) rfl Tryz.func38 rfl (by kernel_rfl) rfl (drop_ret p s vw vd ws Cw hCw d ([(d, dcl p gp gn n false)] :: [(gp, cel (byt nw) 5)] :: [(gn, cel (byt nw) 5)] :: As) (fun x hx => (hB x hx).imp_right fun h => ⟨h.sub (fun _ h => by repeat (first | exact h | apply List.Mem.tail)), ⟨_, List.Mem.head _, _, _, List.Mem.head _⟩⟩) _ (S.front5 (A := [(p, _)]) (by repeat (first | exact pk1 | apply zAa)) (B := Cw) (by repeat (first | exact pk1 | apply zAa)) (C := [(d, _)]) (by repeat (first | exact pk1 | apply zAa)) (D := [(gp, _)]) (by repeat (first | exact pk1 | apply zAa)) (F := [(gn, _)]) (by repeat (first | exact pk1 | apply zAa))).hp) ?_
    rintro v23 w ⟨vw', Cw', hCw', hT⟩; clear E a; intro a E
    have S := (S.front5 (A := [(p, _)]) (by repeat (first | exact pk1 | apply zAa)) (B := Cw) (by repeat (first | exact pk1 | apply zAa)) (C := [(d, _)]) (by repeat (first | exact pk1 | apply zAa)) (D := [(gp, _)]) (by repeat (first | exact pk1 | apply zAa)) (F := [(gn, _)]) (by repeat (first | exact pk1 | apply zAa))).all hT
    refine wpList_nil ?_
    refine zAh hK ?_; clear hK; clear K
    refine wp_seq_k ?_; intro K hK
    refine zAc ?_
    refine zp E (zAg E rfl rfl) ?_; clear E a; intro a E
    refine wpList_nil ?_
    refine zAh hK ?_; clear hK; clear K
    refine wp_ret ?_
    refine ret1 E rfl rfl ?_
    exact ⟨_, rfl, .inr ⟨hs, rfl, rfl, vw', Cw', hCw', S.tr⟩⟩
theorem dwrite_ret (d p gn gp n : Nat) (f : Bool) (s : Pw) (vw vd : Value) (nw : List UInt8) (hnw : nw.length = n) (hn : n ≤ 1048576) (ws : List Wt) (hws : ws.length + 8192 ≤ 244335861110) (hwr : s.wr ≤ 1000000000000000000) (hlf : s.left ≤ 9223372036854775807) (Cw : zAs) (hCw : Buf Cw 103 130 vw ws.length (wl ws))
    (at_ : Int) (ha : -9223372036854775808 ≤ at_ ∧ at_ ≤ 9223372036854775807) (v : Value) (b : List UInt8) (D : zAs) (hD : Rd D 1 v b.length (byt b)) (hcap : ∃ ad c, v = .slice ad b.length c ∧ b.length ≤ c) (As : List zAs) (hDA : D ∈ As) (w0 : World)
    (H : Hp w0 ([(p, pcl s vw vd)] :: Cw :: [(d, dcl p gp gn n f)] :: [(gn, cel (byt nw) 5)] :: As)) :
    Ret Tryz.prog 54 #[ptr d, .int .i64 at_, v] w0 fun u w' => ∃ vw' Cw', u = .int .i64 (wrS d n at_ b s f nw ws).2.2.2 ∧ Buf Cw' 103 130 vw' (wrS d n at_ b s f nw ws).2.2.1.length (wl (wrS d n at_ b s f nw ws).2.2.1) ∧ (wrS d n at_ b s f nw ws).2.1.length = n ∧
      Trs w0 w' ([(p, pcl s vw vd)] :: Cw :: [(d, dcl p gp gn n f)] :: [(gn, cel (byt nw) 5)] :: As) ([(p, pcl (wrS d n at_ b s f nw ws).1 vw' vd)] :: Cw' :: [(d, dcl p gp gn n f)] :: [(gn, cel (byt (wrS d n at_ b s f nw ws).2.1) 5)] :: As) := by
  have S := St.begin H
  obtain ⟨ad, c, rfl, hc⟩ := hcap
  have hbl := hD.2.2.1
  simp only [maxLen] at hbl
  obtain ⟨fin, hfin⟩ : ∃ fin, fin = wrS d n at_ b s f nw ws := ⟨_, rfl⟩
  rw [← hfin]
  refine zEs 104 Tryz.func54 rfl rfl (by decide) ?_; intro a E
  refine wp_seq_k ?_; intro K hK
  refine zAc ?_
  refine zp E (zAg E rfl rfl) ?_; clear E a; intro a E
  refine wpList_nil ?_
  refine zAh hK ?_; clear hK; clear K
  iterate 2 (refine wp_seq_k ?_; intro K hK)
  refine zAc ?_
  refine zp E (zAe E rfl rfl) ?_; clear E a; intro a E
  refine zAr E rfl rfl (by decide) rfl Tryz.func71 rfl (by kernel_rfl) rfl (down_ret d p gp gn _ f s vw vd _ (S.hp.sel (zAd (by repeat (first | exact pk1 | apply zAa)) (zAd (by repeat (first | exact pk1 | apply zAa)) (zAk _))))) ?_
  rintro v12 w ⟨rfl, hT⟩; clear E a; intro a E
  have S := (S.call2 (zAd (by repeat (first | exact pk1 | apply zAa)) (zAd (by repeat (first | exact pk1 | apply zAa)) (zAk _))) hT).front2 (A := [(p, _)]) (by repeat (first | exact pk1 | apply zAa)) (B := Cw) (by repeat (first | exact pk1 | apply zAa))
  refine zp E (zAg E rfl rfl) ?_; clear E a; intro a E
  refine wpList_nil ?_
  refine zAh hK ?_; clear hK; clear K
  refine wp_seq_k ?_; intro K hK
  refine zAc ?_
  refine zp E (zAe E rfl rfl) ?_; clear E a; intro a E
  refine zp E (by first | exact zCu E rfl rfl rfl | exact zAz E rfl rfl rfl rfl | exact zBj E rfl rfl rfl rfl | exact zBd E rfl rfl rfl) ?_; clear E a; intro a E
  refine wpList_nil ?_
  refine zAh hK ?_; clear hK; clear K
  refine zBl E rfl (fun hb => ?_) (fun hb => ?_)
  · replace hb := Nrm.nrm hb
    refine wp_seq_k ?_; intro K hK
    refine zAc ?_
    refine zp E (zAe E rfl rfl) ?_; clear E a; intro a E
    refine zp E (zAg E rfl rfl) ?_; clear E a; intro a E
    refine wpList_nil ?_
    refine zAh hK ?_; clear hK; clear K
    refine wp_ret ?_
    refine zBi ?_; clear hK; clear K
    refine ret1 E rfl rfl ?_
    have hv : fin = (s, nw, ws, if s.off then 5 else 30) := by rw [hfin]; unfold wrS; cases hs : s.off <;> cases hf : f <;> simp_all
    have hvv : (if s.off = true then (5 : Int) else if f = true then 30 else 0) = if s.off then 5 else 30 := by cases hs : s.off <;> cases hf : f <;> simp_all
    exact ⟨_, rfl, vw, Cw, by rw [hv, hvv], by rw [hv]; exact hCw, by rw [hv]; exact hnw, by rw [hv]; exact S.tr⟩
  · replace hb := Nrm.nrm hb
    refine wp_skip ?_
    refine zAh hK ?_; clear hK; clear K
    iterate 2 (refine wp_seq_k ?_; intro K hK)
    have hs : s.off = false := by cases h : s.off; rfl; simp [h] at hb
    have hf : f = false := by cases h : f; rfl; simp [hs, h] at hb
    subst hf
    refine zAc ?_
    refine zp E (zAe E rfl rfl) ?_; clear E a; intro a E
    refine zp E (by first | exact zCa E rfl rfl rfl | exact zBa E rfl rfl rfl | exact zAt E rfl rfl rfl) ?_; clear E a; intro a E
    refine zp E (zKy E rfl rfl rfl (by decide) (by first | exact zLb (y := 128) | exact rfl)) ?_; clear E a; intro a E
    refine zp E (by first | exact zCu E rfl rfl rfl | exact zAz E rfl rfl rfl rfl | exact zBj E rfl rfl rfl rfl | exact zBd E rfl rfl rfl) ?_; clear E a; intro a E
    refine zp E (zAe E rfl rfl) ?_; clear E a; intro a E
    refine zAy E (t := 20) rfl (fun hb20 => ?_) (fun hb20 => ?_)
    · have hb20n := hb20; replace hb20n := Nrm.nrm hb20n
      iterate 7 (refine zn E hb20 ?_; clear E a; intro a E)
      refine zp E (zAm E rfl rfl hb20 rfl) ?_; clear E a; intro a E
      refine wpList_nil ?_
      refine zAh hK ?_; clear hK; clear K
      refine zDa E rfl rfl ?_
      refine wp_seq_k ?_; intro K hK
      refine zAc ?_
      refine zp E (zAg E rfl rfl) ?_; clear E a; intro a E
      refine wpList_nil ?_
      refine zAh hK ?_; clear hK; clear K
      refine wp_ret ?_
      refine zBi ?_; clear hK; clear K
      refine ret1 E rfl rfl ?_
      have hno : ¬ zEu n at_ b := by
        intro q
        first
        | (have := q.1; omega)
        | (rw [decide_eq_true ⟨q.2.1, by omega, q.2.2.1, q.2.2.2⟩] at hb; simp at hb)
      have hv : fin = (s, nw, ws, 1) := by rw [hfin]; unfold wrS; rw [if_neg (by simp [hs]), if_neg (by simp), if_pos hno]
      exact ⟨_, rfl, vw, Cw, by rw [hv], by rw [hv]; exact hCw, by rw [hv]; exact hnw, by rw [hv]; exact (S.front4 (A := [(p, _)]) (by repeat (first | exact pk1 | apply zAa)) (B := Cw) (by repeat (first | exact pk1 | apply zAa)) (C := [(d, _)]) (by repeat (first | exact pk1 | apply zAa)) (D := [(gn, _)]) (by repeat (first | exact pk1 | apply zAa))).tr⟩
    · have hb20n := hb20; replace hb20n := Nrm.nrm hb20n
      iterate 3 (refine zy E hb20 (zAe E rfl rfl) ?_; clear E a; intro a E)
      refine zy E hb20 (by first | exact zCa E rfl rfl rfl | exact zBa E rfl rfl rfl | exact zAt E rfl rfl rfl) ?_; clear E a; intro a E
      refine zy E hb20 (zGt E rfl rfl rfl (by decide) (by first | exact zJt (y := 128) (by omega) | exact zHr (y := 128) (by omega) | exact rfl)) ?_; clear E a; intro a E
      refine zDg E rfl rfl rfl rfl hb20 ?_; refine zEe E rfl (by decide) rfl Tryz.func72 rfl (by kernel_rfl) rfl (has_ret d p gp gn _ false at_ ((b.length / 128 : Nat) : Int) hn ha _ (S.hp.sel (zAd (by repeat (first | exact pk1 | apply zAa)) (zAk _)))) ?_
      rintro v26 w ⟨rfl, hT⟩; clear E a; intro a E
      have S := S.call1 (zAd (by repeat (first | exact pk1 | apply zAa)) (zAk _)) hT
      refine zy E hb20 (zEg E rfl rfl) ?_; clear E a; intro a E
      refine zp E (zAq E rfl rfl hb20 rfl) ?_; clear E a; intro a E
      refine wpList_nil ?_
      refine zAh hK ?_; clear hK; clear K
      refine zBl E rfl (fun hb => ?_) (fun hb => ?_)
      · replace hb := Nrm.nrm hb
        refine wp_seq_k ?_; intro K hK
        refine zAc ?_
        refine zp E (zAg E rfl rfl) ?_; clear E a; intro a E
        refine wpList_nil ?_
        refine zAh hK ?_; clear hK; clear K
        refine wp_ret ?_
        refine zBi ?_; clear hK; clear K
        refine ret1 E rfl rfl ?_
        have hno : ¬ zEu n at_ b := by
          intro q
          first
          | (have := q.1; omega)
          | (rw [decide_eq_true ⟨q.2.1, by omega, q.2.2.1, q.2.2.2⟩] at hb; simp at hb)
        have hv : fin = (s, nw, ws, 1) := by rw [hfin]; unfold wrS; rw [if_neg (by simp [hs]), if_neg (by simp), if_pos hno]
        exact ⟨_, rfl, vw, Cw, by rw [hv], by rw [hv]; exact hCw, by rw [hv]; exact hnw, by rw [hv]; exact (S.front4 (A := [(p, _)]) (by repeat (first | exact pk1 | apply zAa)) (B := Cw) (by repeat (first | exact pk1 | apply zAa)) (C := [(d, _)]) (by repeat (first | exact pk1 | apply zAa)) (D := [(gn, _)]) (by repeat (first | exact pk1 | apply zAa))).tr⟩
      · replace hb := Nrm.nrm hb
        refine wp_skip ?_
        refine zAh hK ?_; clear hK; clear K
        iterate 2 (refine wp_seq_k ?_; intro K hK)
        have hmay : zEu n at_ b := ⟨by omega, Decidable.byContradiction fun q => (by rw [decide_eq_false (fun z => q ⟨z.1, z.2.2.1, z.2.2.2⟩)] at hb; simp at hb)⟩
        have hv : fin = wrN d at_.toNat b (b.length / 128) 0 s nw ws := by rw [hfin]; unfold wrS; rw [if_neg (by simp [hs]), if_neg (by simp), if_neg (fun q => q hmay)]
        obtain ⟨hm1, hm2, hm3, hm4⟩ := hmay
        obtain ⟨an, rfl⟩ : ∃ an : Nat, at_ = an := ⟨at_.toNat, by omega⟩
        rw [Int.toNat_natCast] at hv
        obtain ⟨N, hN⟩ : ∃ N, N = b.length / 128 := ⟨_, rfl⟩
        rw [← hN] at hv hm4
        refine zAc ?_
        refine zp E (zAe E rfl rfl) ?_; clear E a; intro a E
        refine zp E (by first | exact zCa E rfl rfl rfl | exact zBa E rfl rfl rfl | exact zAt E rfl rfl rfl) ?_; clear E a; intro a E
        refine zp E (zGt E rfl rfl rfl (by decide) (by first | exact zJt (y := 128) (by omega) | exact zHr (y := 128) (by omega) | exact rfl)) ?_; clear E a; intro a E
        rw [← hN] at E
        refine zp E (zAe E rfl rfl) ?_; clear E a; intro a E
        refine wpList_nil ?_
        refine zAh hK ?_; clear hK; clear K
        refine wp_block ?_
        refine wp_loop_ghost (fun (m : Nat) (a : Act) (w' : World) => ∃ (i : Nat) (s' : Pw) (nw' : List UInt8) (ws' : List Wt) (vw' : Value) (Cw' : zAs), m = N - i ∧ i ≤ N ∧ wrN d an b (N - i) i s' nw' ws' = fin ∧ nw'.length = n ∧ ws'.length ≤ ws.length + i ∧ s'.wr ≤ s.wr + i ∧ s'.left ≤ 9223372036854775807 ∧ Buf Cw' 103 130 vw' ws'.length (wl ws') ∧
         St w0 ([(p, pcl s vw vd)] :: Cw :: [(d, dcl p gp gn n false)] :: [(gn, cel (byt nw) 5)] :: As) w' ([(p, pcl s' vw' vd)] :: Cw' :: [(d, dcl p gp gn n false)] :: [(gn, cel (byt nw') 5)] :: As) ∧ Fr a 104 [(0, ptr d), (1, .int .i64 an), (2, .slice ad b.length c), (31, .int .i64 N), (32, .int .i64 i)]) (N - 0) ?_ ?_
        · exact ⟨0, s, nw, ws, vw, Cw, rfl, by omega, hv.symm, hnw, by omega, by omega, hlf, hCw, (S.front4 (A := [(p, _)]) (by repeat (first | exact pk1 | apply zAa)) (B := Cw) (by repeat (first | exact pk1 | apply zAa)) (C := [(d, _)]) (by repeat (first | exact pk1 | apply zAa)) (D := [(gn, _)]) (by repeat (first | exact pk1 | apply zAa))), E.keep (zAb rfl (zAb rfl (zAb rfl (zAb rfl (zAb rfl zAp)))))⟩
        clear E; clear a; (try clear S); rintro m a w ⟨i, s', nw', ws', vw', Cw', rfl, hi, hrest, hnw', hwl, hwr', hlf', hCw', S, E⟩
        refine wp_seq_k ?_; intro K hK
        refine zAc ?_
        refine zp E (zCb E rfl rfl rfl) ?_; clear E a; intro a E
        refine wpList_nil ?_
        refine zAh hK ?_; clear hK; clear K
        refine wp_seq_k ?_; intro K hK
        refine zBl E rfl (fun hb => ?_) (fun hb => ?_)
        · replace hb := Nrm.nrm hb
          refine wp_skip ?_
          refine zAh hK ?_; clear hK; clear K
          refine wp_seq_k ?_; intro K hK
          refine wp_block ?_
          refine wp_seq_k ?_; intro K hK
          refine zAc ?_
          refine zp E (zAe E rfl rfl) ?_; clear E a; intro a E
          refine zp E (zAg E rfl rfl) ?_; clear E a; intro a E
          refine wpList_nil ?_
          refine zAh hK ?_; clear hK; clear K
          refine wp_seq_k ?_; intro K hK
          have hiN : i < N := by omega
          rw [show N - i = (N - i - 1) + 1 by omega, wrN] at hrest
          refine zAc ?_
          refine zp E (zAe E rfl rfl) ?_; clear E a; intro a E
          refine zp E (zAl E rfl rfl) ?_; clear E a; intro a E
          refine zp E (by first | exact zAf (q := 0) E rfl rfl rfl | exact zAi (q := 0) E rfl rfl rfl) ?_; clear E a; intro a E
          refine zp E (by first | exact zAn E rfl rfl rfl (S.get (by repeat (first | exact pk1 | apply zAa))) rfl | exact zAj E rfl rfl rfl (by assumption)) ?_; clear E a; intro a E
          refine zp E (zAg E rfl rfl) ?_; clear E a; intro a E
          refine wpList_nil ?_
          refine zAh hK ?_; clear hK; clear K
          iterate 2 (refine wp_seq_k ?_; intro K hK)
          refine zAc ?_
          refine zp E (zAe E rfl rfl) ?_; clear E a; intro a E
          refine zp E (zAl E rfl rfl) ?_; clear E a; intro a E
          refine zp E (by first | exact zAf (q := 1) E rfl rfl rfl | exact zAi (q := 1) E rfl rfl rfl) ?_; clear E a; intro a E
          refine zp E (by first | exact zAn E rfl rfl rfl (S.get (by repeat (first | exact pk1 | apply zAa))) rfl | exact zAj E rfl rfl rfl (by assumption)) ?_; clear E a; intro a E
          refine zp E (by first | exact zCf E rfl rfl rfl | exact zAu E rfl rfl rfl rfl | exact zBc E rfl rfl rfl rfl | exact zAw E rfl rfl rfl) ?_; clear E a; intro a E
          refine wpList_nil ?_
          refine zAh hK ?_; clear hK; clear K
          refine zBl E rfl (fun hb => ?_) (fun hb => ?_)
          · replace hb := Nrm.nrm hb
            rw [if_pos hb] at hrest
            refine wp_seq_k ?_; intro K hK
            refine zAc ?_
            iterate 2 (refine zp E (zAe E rfl rfl) ?_; clear E a; intro a E)
            refine zp E (zAl E rfl rfl) ?_; clear E a; intro a E
            refine zp E (by first | exact zAf (q := 2) E rfl rfl rfl | exact zAi (q := 2) E rfl rfl rfl) ?_; clear E a; intro a E
            refine zAo rfl (zBg E S rfl rfl rfl rfl rfl rfl (by repeat (first | exact pk1 | apply zAa)) (by first | exact Nat.le_of_ble_eq_true rfl | (simp; done) | (simp; omega)) ?_); clear E S a; intro a w E S; try dsimp only [List.set] at S
            refine zp E (zAl E rfl rfl) ?_; clear E a; intro a E
            refine zp E (by first | exact zAf (q := 1) E rfl rfl rfl | exact zAi (q := 1) E rfl rfl rfl) ?_; clear E a; intro a E
            refine zAo rfl (zBg E S rfl rfl rfl rfl rfl rfl (by repeat (first | exact pk1 | apply zAa)) (by first | exact Nat.le_of_ble_eq_true rfl | (simp; done) | (simp; omega)) ?_); clear E S a; intro a w E S; try dsimp only [List.set] at S
            refine wpList_nil ?_
            refine zAh hK ?_; clear hK; clear K
            refine wp_seq_k ?_; intro K hK
            refine zAc ?_
            refine zp E (zAg E rfl rfl) ?_; clear E a; intro a E
            refine wpList_nil ?_
            refine zAh hK ?_; clear hK; clear K
            refine wp_ret ?_
            refine zBi ?_; clear hK; clear K
            refine zEc ?_
            refine zBi ?_; clear hK; clear K
            refine zBi ?_
            refine zEc ?_
            refine zBi ?_; clear hK; clear K
            refine ret1 E rfl rfl ?_
            exact ⟨_, rfl, vw', Cw', by rw [← hrest], by rw [← hrest]; exact hCw', by rw [← hrest]; exact hnw', by rw [← hrest]; exact S.tr⟩
          · replace hb := Nrm.nrm hb
            rw [if_neg hb] at hrest
            refine wp_skip ?_
            refine zAh hK ?_; clear hK; clear K
            iterate 2 (refine wp_seq_k ?_; intro K hK)
            refine zAc ?_
            refine zp E (zAe E rfl rfl) ?_; clear E a; intro a E
            refine zp E (zAl E rfl rfl) ?_; clear E a; intro a E
            refine zp E (by first | exact zAf (q := 1) E rfl rfl rfl | exact zAi (q := 1) E rfl rfl rfl) ?_; clear E a; intro a E
            refine zp E (by first | exact zAn E rfl rfl rfl (S.get (by repeat (first | exact pk1 | apply zAa))) rfl | exact zAj E rfl rfl rfl (by assumption)) ?_; clear E a; intro a E
            refine zp E (zDd E rfl rfl rfl) ?_; clear E a; intro a E
            refine wpList_nil ?_
            refine zAh hK ?_; clear hK; clear K
            refine zFe (fun (a : Act) (w' : World) => ∃ lf : Int, lf = (if 0 < s'.left then s'.left - 1 else s'.left) ∧ St w0 ([(p, pcl s vw vd)] :: Cw :: [(d, dcl p gp gn n false)] :: [(gn, cel (byt nw) 5)] :: As) w' ([(p, pcl { s' with left := lf } vw' vd)] :: Cw' :: [(d, dcl p gp gn n false)] :: [(gn, cel (byt nw') 5)] :: As) ∧ Fr a 104 [(0, ptr d), (1, .int .i64 an), (2, .slice ad b.length c), (8, .int .i64 i), (9, ptr p), (31, .int .i64 N), (32, .int .i64 i)]) ?_ ?_
            · skip
              refine zBl E rfl (fun hb => ?_) (fun hb => ?_)
              · replace hb := Nrm.nrm hb
                refine zAc ?_
                refine zp E (zAe E rfl rfl) ?_; clear E a; intro a E
                refine zp E (zAl E rfl rfl) ?_; clear E a; intro a E
                refine zp E (by first | exact zAf (q := 1) E rfl rfl rfl | exact zAi (q := 1) E rfl rfl rfl) ?_; clear E a; intro a E
                refine zp E (by first | exact zAn E rfl rfl rfl (S.get (by repeat (first | exact pk1 | apply zAa))) rfl | exact zAj E rfl rfl rfl (by assumption)) ?_; clear E a; intro a E
                refine zp E (zDf E rfl rfl rfl (by first | exact zEx (y := 1) (by omega) (by omega) | exact w_in (by omega) | exact zBy (by omega) | exact rfl)) ?_; clear E a; intro a E
                refine zp E (zAl E rfl rfl) ?_; clear E a; intro a E
                refine zp E (by first | exact zAf (q := 1) E rfl rfl rfl | exact zAi (q := 1) E rfl rfl rfl) ?_; clear E a; intro a E
                refine zAo rfl (zBg E S rfl rfl rfl rfl rfl rfl (by repeat (first | exact pk1 | apply zAa)) (by first | exact Nat.le_of_ble_eq_true rfl | (simp; done) | (simp; omega)) ?_); clear E S a; intro a w E S; try dsimp only [List.set] at S
                refine wpList_nil ?_
                refine zBp ?_
                exact ⟨s'.left - 1, by rw [if_pos hb], S, E.keep (zAb rfl (zAb rfl (zAb rfl (zAb rfl (zAb rfl (zAb rfl (zAb rfl zAp)))))))⟩
              · replace hb := Nrm.nrm hb
                refine wp_skip ?_
                refine zBp ?_
                exact ⟨s'.left, by rw [if_neg hb], S, E.keep (zAb rfl (zAb rfl (zAb rfl (zAb rfl (zAb rfl (zAb rfl (zAb rfl zAp)))))))⟩
            · clear S E a; intro a w J; obtain ⟨lf, hlf2, S, E⟩ := J
              refine zAh hK ?_; clear hK; clear K
              refine wp_seq_k ?_; intro K hK
              refine zAc ?_
              refine zp E (zAe E rfl rfl) ?_; clear E a; intro a E
              refine zp E (zAl E rfl rfl) ?_; clear E a; intro a E
              refine zp E (by first | exact zAf (q := 3) E rfl rfl rfl | exact zAi (q := 3) E rfl rfl rfl) ?_; clear E a; intro a E
              refine zp E (by first | exact zAn E rfl rfl rfl (S.get (by repeat (first | exact pk1 | apply zAa))) rfl | exact zAj E rfl rfl rfl (by assumption)) ?_; clear E a; intro a E
              dsimp only at E S
              refine zp E (zBu E rfl rfl rfl (by first | exact zCj (y := 1) (by omega) | exact w_in (by omega) | exact zBy (by omega) | exact rfl)) ?_; clear E a; intro a E
              refine zp E (zAl E rfl rfl) ?_; clear E a; intro a E
              refine zp E (by first | exact zAf (q := 3) E rfl rfl rfl | exact zAi (q := 3) E rfl rfl rfl) ?_; clear E a; intro a E
              refine zAo rfl (zBg E S rfl rfl rfl rfl rfl rfl (by repeat (first | exact pk1 | apply zAa)) (by first | exact Nat.le_of_ble_eq_true rfl | (simp; done) | (simp; omega)) ?_); clear E S a; intro a w E S; try dsimp only [List.set] at S
              refine wpList_nil ?_
              refine zAh hK ?_; clear hK; clear K
              refine wp_seq_k ?_; intro K hK
              refine zAc ?_
              iterate 3 (refine zp E (zAe E rfl rfl) ?_; clear E a; intro a E)
              refine zp E (zBu E rfl rfl rfl (by first | exact wa1 (by omega) | exact w_in (by omega) | exact zBy (by omega) | exact rfl)) ?_; clear E a; intro a E
              refine zp E (zCo (cells := [ptr d, .int .i64 (an + i : Nat)] ++ List.replicate 128 (.int .u8 0)) E rfl rfl rfl) ?_; clear E a; intro a E
              refine zAo rfl (zCc E S rfl rfl (by decide) rfl rfl rfl ?_); clear E S a; intro a w b10 E S
              refine zAo rfl (zEw E S rfl rfl rfl rfl (by intro u hu; rcases List.mem_append.1 hu with h | h; simp at h; rcases h with rfl | rfl <;> rfl; rw [(List.mem_replicate.1 h).2]; rfl) rfl (by simp; kernel_rfl) (by repeat (first | exact pk1 | apply zAa)) (by first | rfl | kernel_rfl) ?_); clear E S a; intro a w E S
              refine wpList_nil ?_
              refine zAh hK ?_; clear hK; clear K
              refine wp_seq_k ?_; intro K hK
              have hbi : 128 * i + 128 ≤ b.length := by omega
              obtain ⟨ad2, c2, he2, hc2, hR2⟩ := hD.tailc (n := i * 128) (by omega) hc
              rw [Nat.mul_one, zFv] at hR2
              have hdl : (b.drop (i * 128)).length = b.length - i * 128 := List.length_drop
              refine zBo S (.ofL [(0, 0), (1, 0), (2, 0), (3, 0), (4, 0), (5, 0), (6, 3)]) (by kernel_rfl) (by kernel_rfl) ?_
              clear S; intro w S
              refine zm E rfl (fun w h => by first | exact zAf (q := 2) E rfl rfl rfl | exact zAi (q := 2) E rfl rfl rfl) ?_; clear E a; intro a E
              refine zm E rfl (fun w h => zFx E rfl rfl rfl rfl (by decide)) ?_; clear E a; intro a E
              iterate 2 (refine zm E rfl (fun w h => zAe E rfl rfl) ?_; clear E a; intro a E)
              refine zm E rfl (fun w h => zEd E rfl rfl rfl (by first | exact zGb (y := 128) (by omega) | exact w_in (by omega) | exact rfl)) ?_; clear E a; intro a E
              refine zm E rfl (fun w h => zIl (lo := i * 128) (s := 1) E rfl rfl rfl rfl rfl rfl (by omega)) ?_; clear E a; intro a E
              rw [he2] at E
              refine zCq rfl rfl (zGk E S rfl rfl (by decide) rfl rfl (by repeat (first | exact pk1 | apply zAa)) (hR2.copySrc (S.stab.at (by repeat (first | exact mm1 | assumption | apply List.Mem.tail))) rfl) rfl rfl (by simp; omega) ?_); clear E S a; intro a w E S
              rw [wcopy d (an + i) b hbi] at S
              obtain ⟨x, hx⟩ : ∃ x, x = mkW d (an + i) (secB b i) := ⟨_, rfl⟩
              rw [← hx] at S
              refine zBs ?_
              refine zAh hK ?_; clear hK; clear K
              refine wp_seq_k ?_; intro K hK
              refine zDt S (.ofL [(0, 0), (1, 0), (2, 0), (3, 0), (4, 0), (5, 0), (6, 1), (7, 1), (8, 0), (9, 0), (10, 3)]) [[(b10, cel x.lay 103)], [(p, cel [vw', .int .i64 lf, .bool s'.off, .int .i64 (s'.wr + 1 : Nat), vd] 99)]] (fun h => h.sub (by first | (simp; done) | (simp +contextual; done) | (simp [*]; done))) (by kernel_rfl) (by kernel_rfl) ?_
              clear S; intro w S
              iterate 2 (refine zm E rfl (fun w h => zAe E rfl rfl) ?_; clear E a; intro a E)
              refine zm E rfl (fun w h => zAl E rfl rfl) ?_; clear E a; intro a E
              refine zm E rfl (fun w h => by first | exact zAf (q := 0) E rfl rfl rfl | exact zAi (q := 0) E rfl rfl rfl) ?_; clear E a; intro a E
              refine zm E rfl (fun w h => by first | exact zAn E rfl rfl rfl (h.one (by repeat (first | exact mm1 | assumption | apply List.Mem.tail))) rfl | exact zAj E rfl rfl rfl (by assumption)) ?_; clear E a; intro a E
              refine zm E rfl (fun w h => zEq E rfl rfl rfl (h.one (by repeat (first | exact mm1 | assumption | apply List.Mem.tail))) (Wt.lay_len x)) ?_; clear E a; intro a E
              refine zDp rfl rfl (zCk (cells := x.lay) E S rfl rfl (by decide) rfl rfl rfl rfl rfl (by decide) (fill_one (by kernel_rfl) ((Wt.lay_len x).trans (by kernel_rfl))) ?_); clear E S a; intro a w b87 E S; refine ⟨S.stab.sub (by first | (simp; done) | (simp +contextual; done) | (simp [*]; done)), ?_⟩
              refine zDp rfl rfl (zCi (by' := 144) E S rfl rfl (by decide) rfl rfl hCw' (by repeat (first | exact pk1 | apply zAa)) ((zCr (g := b87) (T := 103) (xs := x.lay) (s := 130) (m := 1) (Wt.lay_len x) x.lay_one (by omega) 1).src (S.stab.at (by repeat (first | exact mm1 | assumption | apply List.Mem.tail))) rfl) rfl rfl rfl rfl rfl rfl (by simp only [maxLen]; omega) (by omega) ?_); clear E S a; intro a w v88 C88 E S hB88; refine ⟨S.stab.sub (by first | (simp; done) | (simp +contextual; done) | (simp [*]; done)), ?_⟩
              obtain ⟨ad88, c88, rfl⟩ := hB88.slice
              refine zm E rfl (fun w h => zAl E rfl rfl) ?_; clear E a; intro a E
              refine zm E rfl (fun w h => by first | exact zAf (q := 0) E rfl rfl rfl | exact zAi (q := 0) E rfl rfl rfl) ?_; clear E a; intro a E
              refine zCq rfl rfl (zBg E S rfl rfl rfl rfl rfl rfl (by repeat (first | exact pk1 | apply zAa)) (by first | exact Nat.le_of_ble_eq_true rfl | (simp; done) | (simp; omega)) ?_); clear E S a; intro a w E S; try dsimp only [List.set] at S
              refine zBs ?_
              refine zAh hK ?_; clear hK; clear K
              have hxb : x.b = secB b i := by rw [hx]; exact pad_id (zDj hbi)
              have hbl2 := zDj hbi
              have hset := zEh (l := nw') (b := secB b i) (i := an + i) (by omega) hbl2
              refine zDt S (.ofL [(0, 0), (1, 0), (2, 0), (3, 0), (4, 0), (5, 0), (6, 0), (7, 0), (9, 0), (10, 0), (8, 1), (11, 3)]) [[(d, dcl p gp gn n false)], [(b10, cel x.lay 103)]] (fun h => h.sub (by first | (simp; done) | (simp +contextual; done) | (simp [*]; done))) (by kernel_rfl) (by kernel_rfl) ?_
              clear S; intro w S
              iterate 2 (refine zm E rfl (fun w h => zAe E rfl rfl) ?_; clear E a; intro a E)
              refine zm E rfl (fun w h => zAl E rfl rfl) ?_; clear E a; intro a E
              refine zm E rfl (fun w h => by first | exact zAf (q := 2) E rfl rfl rfl | exact zAi (q := 2) E rfl rfl rfl) ?_; clear E a; intro a E
              refine zm E rfl (fun w h => by first | exact zAn E rfl rfl rfl (h.one (by repeat (first | exact mm1 | assumption | apply List.Mem.tail))) rfl | exact zAj E rfl rfl rfl (by assumption)) ?_; clear E a; intro a E
              iterate 2 (refine zm E rfl (fun w h => zAe E rfl rfl) ?_; clear E a; intro a E)
              refine zm E rfl (fun w h => zBu E rfl rfl rfl (by first | exact wa1 (by omega) | exact w_in (by omega) | exact zBy (by omega) | exact rfl)) ?_; clear E a; intro a E
              refine zm E rfl (fun w h => by first | exact zAf (q := 2) E rfl rfl rfl | exact zAi (q := 2) E rfl rfl rfl) ?_; clear E a; intro a E
              refine zm E rfl (fun w h => zFx E rfl rfl rfl rfl (by decide)) ?_; clear E a; intro a E
              refine zCn E rfl rfl rfl (by decide) rfl Tryz.func41 rfl (by kernel_rfl) rfl (zGm (ptr d) gn n (an + i) (by omega) hn _) ?_
              rintro v99 w ⟨rfl, hT⟩; clear E a; intro a E
              have S := S.quiet hT
              refine ⟨S.stab.sub (by first | (simp; done) | (simp +contextual; done) | (simp [*]; done)), ?_⟩
              have hRx := rd_part (g := b10) (m := 128) (T := 103) [ptr d, .int .i64 (an + i : Nat)] (byt x.b) [] (by rw [zBm, x.hb]) (zDv _) (by omega) 128
              rw [List.append_nil, show [ptr d, .int .i64 (an + i : Nat)] ++ byt x.b = x.lay by rw [hx]; rfl] at hRx
              refine zCq rfl rfl (zGk E S rfl rfl (by decide) rfl rfl (by repeat (first | exact pk1 | apply zAa)) (hRx.copySrc (S.stab.at (by repeat (first | exact mm1 | assumption | apply List.Mem.tail))) rfl) rfl rfl (by rw [zBm]; omega) ?_); clear E S a; intro a w E S
              rw [Nat.min_self, show (byt x.b).take 128 = byt x.b from List.take_of_length_le (by rw [zBm, x.hb]; omega), byt_setS _ _ _ x.hb, hxb] at S
              refine zBs ?_
              refine zBf ?_
              refine zAh hK ?_; clear hK; clear K
              refine zAc ?_
              refine zp E (zBu E rfl rfl rfl (by first | exact zCj (y := 1) (by omega) | exact w_in (by omega) | exact zBy (by omega) | exact rfl)) ?_; clear E a; intro a E
              refine zp E (zAe E rfl rfl) ?_; clear E a; intro a E
              refine wpList_nil ?_
              refine zBe ?_
              refine ⟨_, by omega, i + 1, ⟨lf, s'.off, s'.wr + 1⟩, setS nw' (an + i) (secB b i), ws' ++ [x], _, C88, rfl, by omega, ?_, ?_, ?_, ?_, ?_, ?_, ((S.del (A := [(b87, _)]) (by repeat (first | exact pk1 | apply zAa))).del (A := [(b10, _)]) (by repeat (first | exact pk1 | apply zAa))).front4 (A := [(p, _)]) (by repeat (first | exact pk1 | apply zAa)) (B := C88) (by repeat (first | exact pk1 | apply zAa)) (C := [(d, _)]) (by repeat (first | exact pk1 | apply zAa)) (D := [(gn, _)]) (by repeat (first | exact pk1 | apply zAa)), E.keep (zAb rfl (zAb rfl (zAb rfl (zAb rfl (zAb rfl zAp)))))⟩
              · rw [show N - (i + 1) = N - i - 1 by omega, hx, hlf2]; exact hrest
              · rw [hset]; exact hnw'
              · rw [List.length_append, List.length_singleton]; omega
              · simp only; omega
              · simp only; rw [hlf2]; split <;> omega
              · rw [List.length_append, List.length_singleton, wl, List.flatMap_append]; simpa using hB88
        · replace hb := Nrm.nrm hb
          refine wp_exit ?_
          refine zBb ?_; clear hK; clear K
          refine zBb ?_
          refine zCm ?_
          refine zAh hK ?_; clear hK; clear K
          refine wp_seq_k ?_; intro K hK
          refine zAc ?_
          refine zp E (zAg E rfl rfl) ?_; clear E a; intro a E
          refine wpList_nil ?_
          refine zAh hK ?_; clear hK; clear K
          refine wp_ret ?_
          refine ret1 E rfl rfl ?_
          obtain rfl : i = N := by omega
          rw [Nat.sub_self, wrN] at hrest
          exact ⟨_, rfl, vw', Cw', by rw [← hrest], by rw [← hrest]; exact hCw', by rw [← hrest]; exact hnw', by rw [← hrest]; exact S.tr⟩
end Go.Proofs.YtidhehcjafoneaaGreatDoor
namespace Go.Sl
structure Dk where
  d : Nat
  gp : Nat
  gn : Nat
  pl : List UInt8
  now : List UInt8
  failed : Bool
def Dk.settle (x : Dk) : Dk := { x with now := x.pl }
def putD (w : Wt) (ds : List Dk) : List Dk := ds.map fun x => if x.d = w.d then { x with pl := setS x.pl w.at_ w.b } else x
def upW : List Wt → List Bool → List Dk → List Dk
  | [], _, ds => ds
  | w :: ws, st, ds => upW ws st.tail (if st.head? = some true then putD w ds else ds)
def Dk.key (x : Dk) : Nat × Nat × Nat × Bool × Nat × List UInt8 := (x.d, x.gp, x.gn, x.failed, x.pl.length, x.now)
theorem putD_one {w : Wt} {A B : List Dk} {x : Dk} (hx : x.d = w.d) (hnd : ((A ++ x :: B).map Dk.d).Nodup) : putD w (A ++ x :: B) = A ++ { x with pl := setS x.pl w.at_ w.b } :: B := by
  have h : ∀ l : List Dk, (∀ y ∈ l, y.d ≠ x.d) → l.map (fun x => if x.d = w.d then ({ x with pl := setS x.pl w.at_ w.b } : Dk) else x) = l := fun l hl => by
    conv => rhs; rw [← List.map_id l]
    exact List.map_congr_left fun y hy => by rw [if_neg (fun q => hl y hy (by rw [q, hx]))]; rfl
  rw [List.map_append, List.map_cons, List.nodup_append] at hnd
  obtain ⟨h1, h2, h3⟩ := hnd
  rw [List.nodup_cons] at h2
  rw [putD, List.map_append, List.map_cons, if_pos hx, h A (fun y hy q => h3 y.d (List.mem_map_of_mem hy) x.d (List.mem_cons_self ..) q), h B (fun y hy q => h2.1 (by rw [← q]; exact List.mem_map_of_mem hy))]
theorem putD_key {w : Wt} {ds : List Dk} (h : ∀ x ∈ ds, x.d = w.d → 128 * w.at_ + 128 ≤ x.pl.length) : (putD w ds).map Dk.key = ds.map Dk.key := by
  rw [putD, List.map_map]
  refine List.map_congr_left fun x hx => ?_
  simp only [Function.comp]
  by_cases hd : x.d = w.d
  · rw [if_pos hd]; simp only [Dk.key, zEh (h x hx hd) w.hb]
  · rw [if_neg hd]
end Go.Sl
namespace Go.Proofs.YtidhehcjafoneaaGreatDoor
open Go.Sl
set_option maxRecDepth 10000
abbrev ch1 (p : Nat) (x : Dk) : zAs := [(x.d, dcl p x.gp x.gn x.pl.length x.failed)]
abbrev ch2 (x : Dk) : zAs := [(x.gp, cel (byt x.pl) 5)]
abbrev ch3 (x : Dk) : zAs := [(x.gn, cel (byt x.now) 5)]
def chs (p : Nat) (ds : List Dk) : List zAs := ds.flatMap fun x => [ch1 p x, ch2 x, ch3 x]
theorem zFi (p : Nat) (X Y Z : zAs) (A B : List Dk) (x : Dk) (As : List zAs) : (X :: Y :: Z :: (chs p (A ++ x :: B) ++ As)).Perm (ch1 p x :: ch2 x :: ch3 x :: X :: Y :: Z :: (chs p (A ++ B) ++ As)) := by
  have e1 : chs p (A ++ x :: B) ++ As = chs p A ++ (ch1 p x :: ch2 x :: ch3 x :: (chs p B ++ As)) := by simp [chs]
  have e2 : chs p (A ++ B) ++ As = chs p A ++ (chs p B ++ As) := by simp [chs]
  rw [e1, e2]
  have h : ∀ (l : List zAs) (a : zAs) (r : List zAs), (X :: Y :: Z :: (l ++ a :: r)).Perm (a :: X :: Y :: Z :: (l ++ r)) := fun l a r =>
    (List.perm_middle (l₁ := X :: Y :: Z :: l) (a := a) (l₂ := r))
  refine (h _ _ _).trans ((h _ _ _).cons _ |>.trans ?_)
  exact ((h _ _ _).cons _).cons _
def DkOk (ds : List Dk) : Prop := (ds.map Dk.d).Nodup ∧ ∀ x ∈ ds, x.now.length = x.pl.length ∧ x.pl.length ≤ 1048576
def WtOk (ws : List Wt) (ds : List Dk) : Prop := ∀ w ∈ ws, (∃ x ∈ ds, x.d = w.d) ∧ ∀ x ∈ ds, x.d = w.d → 128 * w.at_ + 128 ≤ x.pl.length
theorem key_d {ds es : List Dk} (h : es.map Dk.key = ds.map Dk.key) : es.map Dk.d = ds.map Dk.d := by
  have := congrArg (List.map Prod.fst) h
  simpa [List.map_map, Function.comp_def, Dk.key] using this
theorem key_mem {ds es : List Dk} (h : es.map Dk.key = ds.map Dk.key) {x : Dk} (hx : x ∈ es) : ∃ y ∈ ds, y.key = x.key := by
  have := List.mem_map_of_mem (f := Dk.key) hx
  rw [h] at this
  obtain ⟨y, h1, h2⟩ := List.mem_map.1 this
  exact ⟨y, h1, h2⟩
theorem key_ok {ds es : List Dk} (h : es.map Dk.key = ds.map Dk.key) (hd : DkOk ds) : DkOk es := by
  refine ⟨by rw [key_d h]; exact hd.1, fun x hx => ?_⟩
  obtain ⟨y, h1, h2⟩ := key_mem h hx
  have := hd.2 y h1
  simp only [Dk.key, Prod.mk.injEq] at h2
  obtain ⟨_, _, _, _, h5, h6⟩ := h2
  rw [← h5, ← h6]; exact this
theorem key_wt {ds es : List Dk} {ws : List Wt} (h : es.map Dk.key = ds.map Dk.key) (hd : WtOk ws ds) : WtOk ws es := fun w hw => by
  obtain ⟨⟨x, h1, h2⟩, h3⟩ := hd w hw
  refine ⟨?_, fun y hy hyd => ?_⟩
  · obtain ⟨y, h4, h5⟩ := key_mem h.symm h1
    simp only [Dk.key, Prod.mk.injEq] at h5
    exact ⟨y, h4, by rw [h5.1, h2]⟩
  · obtain ⟨z, h4, h5⟩ := key_mem h hy
    simp only [Dk.key, Prod.mk.injEq] at h5
    rw [← h5.2.2.2.2.1]
    exact h3 z h4 (by rw [h5.1, hyd])
theorem up_ret (p : Nat) (s : Pw) (vw vd : Value) (ws : List Wt) (Cw : zAs) (hCw : Buf Cw 103 130 vw ws.length (wl ws)) (ds : List Dk) (Cd : zAs) (hCd : Buf Cd 46 1 vd ds.length (ds.map fun x => ptr x.d)) (hds : DkOk ds) (hws : WtOk ws ds)
    (v : Value) (st : List Bool) (O : zAs) (hO : Rd O 1 v st.length (st.map Value.bool)) (As : List zAs) (hOA : O ∈ As) (w0 : World) (H : Hp w0 ([(p, pcl s vw vd)] :: Cw :: Cd :: (chs p ds ++ As))) :
    Ret Tryz.prog 17 #[ptr p, v] w0 fun _ w' => Trs w0 w' ([(p, pcl s vw vd)] :: Cw :: Cd :: (chs p ds ++ As)) ([(p, pcl ⟨-1, false, s.wr⟩ (.slice none 0 0) vd)] :: Cd :: (chs p ((upW ws st ds).map Dk.settle) ++ As)) := by
  have S := St.begin H
  obtain ⟨ad, c, rfl⟩ := hO.slice
  obtain ⟨adw, cw, rfl⟩ := hCw.slice
  obtain ⟨add, cd, rfl⟩ := hCd.slice
  have hwm := hCw.rd.2.2.1
  have hdm := hCd.rd.2.2.1
  simp only [maxLen] at hwm hdm
  obtain ⟨fin, hfin⟩ : ∃ fin, fin = upW ws st ds := ⟨_, rfl⟩
  rw [← hfin]
  refine zCy 70 Tryz.func17 rfl rfl (by decide) ?_; intro a E
  iterate 2 (refine wp_seq_k ?_; intro K hK)
  refine zAc ?_
  refine zp E (zAe E rfl rfl) ?_; clear E a; intro a E
  refine zp E (zAl E rfl rfl) ?_; clear E a; intro a E
  refine zp E (by first | exact zAf (q := 0) E rfl rfl rfl | exact zAi (q := 0) E rfl rfl rfl) ?_; clear E a; intro a E
  refine zp E (by first | exact zAn E rfl rfl rfl (S.get (by repeat (first | exact pk1 | apply zAa))) rfl | exact zAj E rfl rfl rfl (by assumption)) ?_; clear E a; intro a E
  refine zp E (by first | exact zCa E rfl rfl rfl | exact zBa E rfl rfl rfl | exact zAt E rfl rfl rfl) ?_; clear E a; intro a E
  refine zp E (zAe E rfl rfl) ?_; clear E a; intro a E
  refine wpList_nil ?_
  refine zAh hK ?_; clear hK; clear K
  refine wp_block ?_
  refine wp_loop_ghost (fun (m : Nat) (a : Act) (w' : World) => ∃ (i : Nat) (es : List Dk), m = ws.length - i ∧ i ≤ ws.length ∧ upW (ws.drop i) (st.drop i) es = fin ∧ es.map Dk.key = ds.map Dk.key ∧ St w0 ([(p, pcl s (.slice adw ws.length cw) (.slice add ds.length cd))] :: Cw :: Cd :: (chs p ds ++ As)) w' ([(p, pcl s (.slice adw ws.length cw) (.slice add ds.length cd))] :: Cw :: Cd :: (chs p es ++ As)) ∧ Fr a 70 [(0, ptr p), (1, .slice ad st.length c), (11, .slice adw ws.length cw), (12, .int .i64 ws.length), (13, .int .i64 i)]) (ws.length - 0) ?_ ?_
  · exact ⟨0, ds, rfl, by omega, by rw [hfin]; simp, rfl, S, E.keep (zAb rfl (zAb rfl (zAb rfl (zAb rfl (zAb rfl zAp)))))⟩
  clear E; clear a; (try clear S); rintro m a w ⟨i, es, rfl, hi, hrest, hkey, S, E⟩
  refine wp_seq_k ?_; intro K hK
  refine zAc ?_
  refine zp E (zCb E rfl rfl rfl) ?_; clear E a; intro a E
  refine wpList_nil ?_
  refine zAh hK ?_; clear hK; clear K
  refine wp_seq_k ?_; intro K hK
  refine zBl E rfl (fun hb => ?_) (fun hb => ?_)
  · replace hb := Nrm.nrm hb
    refine wp_skip ?_
    refine zAh hK ?_; clear hK; clear K
    refine wp_seq_k ?_; intro K hK
    refine wp_block ?_
    refine wp_seq_k ?_; intro K hK
    have hil : i < ws.length := by omega
    obtain ⟨x, hx⟩ : ∃ x, x = ws[i]'hil := ⟨_, rfl⟩
    have hxm : x ∈ ws := by rw [hx]; exact List.getElem_mem hil
    have hst : st.head? = st.head? := rfl
    rw [List.drop_eq_getElem_cons hil, ← hx, upW, List.tail_drop, List.head?_drop] at hrest
    obtain ⟨gw, rfl⟩ := hCw.addr (by omega)
    have hOm : O ∈ chs p es ++ As := List.mem_append_right _ hOA
    refine zAc ?_
    refine zp E (zAe E rfl rfl) ?_; clear E a; intro a E
    refine zp E (zBn (i := i) (s := 130) E rfl rfl rfl rfl rfl rfl (by omega)) ?_; clear E a; intro a E
    refine zp E (zDo (vs := x.lay) E rfl rfl rfl (Wt.lay_len x) (by rw [hx]; exact hCw.rd.elem (lay := Wt.lay) Wt.lay_len (S.stab.at (by repeat (first | exact mm1 | assumption | apply List.Mem.tail))) hil)) ?_; clear E a; intro a E
    refine zAo rfl (zCc E S rfl rfl (by decide) rfl rfl rfl ?_); clear E S a; intro a w b5 E S
    refine zp E (zAg E rfl rfl) ?_; clear E a; intro a E
    refine zAo rfl (zEw E S rfl rfl rfl rfl x.lay_one rfl (Wt.lay_len x) (by repeat (first | exact pk1 | apply zAa)) (by rw [Wt.lay_len]; rfl) ?_); clear E S a; intro a w E S
    refine wpList_nil ?_
    refine zAh hK ?_; clear hK; clear K
    refine wp_seq_k ?_; intro K hK
    refine zAc ?_
    iterate 2 (refine zp E (zAe E rfl rfl) ?_; clear E a; intro a E)
    refine zp E (by first | exact zCa E rfl rfl rfl | exact zBa E rfl rfl rfl | exact zAt E rfl rfl rfl) ?_; clear E a; intro a E
    refine zp E (zCb E rfl rfl rfl) ?_; clear E a; intro a E
    refine zp E (zAe E rfl rfl) ?_; clear E a; intro a E
    refine zAy E (t := 22) rfl (fun hb22 => ?_) (fun hb22 => ?_)
    · have hb22n := hb22; replace hb22n := Nrm.nrm hb22n
      obtain ⟨gs, offs, rfl⟩ := hO.addr (by omega); have his : i < st.length := (by omega)
      iterate 2 (refine zy E hb22 (zAe E rfl rfl) ?_; clear E a; intro a E)
      refine zy E hb22 (zBk (i := i) E rfl rfl rfl rfl rfl rfl (by omega)) ?_; clear E a; intro a E
      refine zy E hb22 (zAj E rfl rfl rfl (hO.cells (S.stab.at (by repeat (first | exact mm1 | assumption | apply List.Mem.tail))) rfl i (.bool (st[i]'his)) (by simp [his]))) ?_; clear E a; intro a E
      refine zp E (zAm E rfl rfl hb22 rfl) ?_; clear E a; intro a E
      refine wpList_nil ?_
      refine zAh hK ?_; clear hK; clear K
      refine zBl E rfl (fun hb => ?_) (fun hb => ?_)
      · replace hb := Nrm.nrm hb
        have hyes : st[i]? = some true := (by rw [List.getElem?_eq_getElem his]; simpa using hb)
        rw [if_pos hyes] at hrest
        obtain ⟨⟨y, hy, hyd⟩, hfit⟩ := key_wt hkey hws x hxm
        have hok := key_ok hkey hds
        have hyf := hfit y hy hyd
        have hyl := hok.2 y hy
        have hpk := putD_key (w := x) hfit
        obtain ⟨A, B, rfl⟩ := List.append_of_mem hy
        rw [putD_one hyd hok.1] at hrest hpk
        have S := S.perm ((zFi p _ _ _ A B y As).cons _)
        obtain ⟨yd, ygp, ygn, ypl, ynow, yfa⟩ := y
        simp only at hyd hyf hyl hrest hpk
        subst hyd
        have S : St w0 _ _ ([(b5, cel x.lay 103)] :: [(x.d, dcl p ygp ygn ypl.length yfa)] :: [(ygp, cel (byt ypl) 5)] :: [(ygn, cel (byt ynow) 5)] :: _) := S
        have hsl := zEh (l := ypl) (b := x.b) (i := x.at_) hyf x.hb
        refine zDt S (.ofL [(0, 0), (1, 0), (2, 0), (3, 0), (4, 0), (5, 0), (6, 0), (7, 0), (8, 0), (10, 0), (11, 0), (9, 1), (12, 3)]) [[(b5, cel x.lay 103)], [(x.d, dcl p ygp ygn ypl.length yfa)]] (fun h => h.sub (by first | (simp; done) | (simp +contextual; done) | (simp [*]; done))) (by kernel_rfl) (by kernel_rfl) ?_
        clear S; intro w S
        refine zm E rfl (fun w h => by first | exact zAf (q := 0) E rfl rfl rfl | exact zAi (q := 0) E rfl rfl rfl) ?_; clear E a; intro a E
        refine zm E rfl (fun w h => zAj E rfl rfl rfl (zCt (h.one (by repeat (first | exact mm1 | assumption | apply List.Mem.tail))) (v := ptr x.d) rfl)) ?_; clear E a; intro a E
        refine zm E rfl (fun w h => by first | exact zAf (q := 0) E rfl rfl rfl | exact zAi (q := 0) E rfl rfl rfl) ?_; clear E a; intro a E
        refine zm E rfl (fun w h => zAj E rfl rfl rfl (zCt (h.one (by repeat (first | exact mm1 | assumption | apply List.Mem.tail))) (v := ptr x.d) rfl)) ?_; clear E a; intro a E
        refine zm E rfl (fun w h => zAl E rfl rfl) ?_; clear E a; intro a E
        refine zm E rfl (fun w h => by first | exact zAf (q := 1) E rfl rfl rfl | exact zAi (q := 1) E rfl rfl rfl) ?_; clear E a; intro a E
        refine zm E rfl (fun w h => by first | exact zAn E rfl rfl rfl (h.one (by repeat (first | exact mm1 | assumption | apply List.Mem.tail))) rfl | exact zAj E rfl rfl rfl (by assumption)) ?_; clear E a; intro a E
        refine zm E rfl (fun w h => by first | exact zAf (q := 1) E rfl rfl rfl | exact zAi (q := 1) E rfl rfl rfl) ?_; clear E a; intro a E
        refine zm E rfl (fun w h => zAj E rfl rfl rfl (zCt (h.one (by repeat (first | exact mm1 | assumption | apply List.Mem.tail))) (v := .int .i64 x.at_) rfl)) ?_; clear E a; intro a E
        refine zm E rfl (fun w h => by first | exact zAf (q := 2) E rfl rfl rfl | exact zAi (q := 2) E rfl rfl rfl) ?_; clear E a; intro a E
        refine zm E rfl (fun w h => zFx E rfl rfl rfl rfl (by decide)) ?_; clear E a; intro a E
        refine zCn E rfl rfl rfl (by decide) rfl Tryz.func41 rfl (by kernel_rfl) rfl (zGm (ptr x.d) ygp ypl.length x.at_ hyf hyl.2 _) ?_
        rintro v37 w ⟨rfl, hT⟩; clear E a; intro a E
        have S := S.quiet hT
        refine ⟨S.stab.sub (by first | (simp; done) | (simp +contextual; done) | (simp [*]; done)), ?_⟩
        have hRx := rd_part (g := b5) (m := 128) (T := 103) [ptr x.d, .int .i64 x.at_] (byt x.b) [] (by rw [zBm, x.hb]) (zDv _) (by omega) 128
        rw [List.append_nil, show [ptr x.d, .int .i64 x.at_] ++ byt x.b = x.lay from rfl] at hRx
        refine zCq rfl rfl (zGk E S rfl rfl (by decide) rfl rfl (by repeat (first | exact pk1 | apply zAa)) (hRx.copySrc (S.stab.at (by repeat (first | exact mm1 | assumption | apply List.Mem.tail))) rfl) rfl rfl (by rw [zBm]; omega) ?_); clear E S a; intro a w E S
        rw [Nat.min_self, show (byt x.b).take 128 = byt x.b from List.take_of_length_le (by rw [zBm, x.hb]; omega), byt_setS _ _ _ x.hb] at S
        refine zBs ?_
        refine zBf ?_
        refine zAh hK ?_; clear hK; clear K
        refine zAc ?_
        refine zp E (zBu E rfl rfl rfl (by first | exact zCj (y := 1) (by omega) | exact w_in (by omega) | exact zBy (by omega) | exact rfl)) ?_; clear E a; intro a E
        refine zp E (zAe E rfl rfl) ?_; clear E a; intro a E
        refine wpList_nil ?_
        refine zBe ?_
        first
        | (rw [if_neg hno] at hrest
           exact ⟨_, by omega, i + 1, es, rfl, by omega, hrest, hkey, S.del (A := [(b5, _)]) (by repeat (first | exact pk1 | apply zAa)), E.keep (zAb rfl (zAb rfl (zAb rfl (zAb rfl (zAb rfl zAp)))))⟩)
        | (have S := (S.del (A := [(b5, _)]) (by repeat (first | exact pk1 | apply zAa))).front3 (A := [(x.d, dcl p ygp ygn ypl.length yfa)]) (by repeat (first | exact pk1 | apply zAa)) (B := [(ygp, _)]) (by repeat (first | exact pk1 | apply zAa)) (C := [(ygn, _)]) (by repeat (first | exact pk1 | apply zAa))
           rw [← hsl] at S
           have S := S.perm (zFi p _ _ _ A B ⟨x.d, ygp, ygn, setS ypl x.at_ x.b, ynow, yfa⟩ As).symm
           exact ⟨_, by omega, i + 1, _, rfl, by omega, hrest, hpk.trans hkey, S, E.keep (zAb rfl (zAb rfl (zAb rfl (zAb rfl (zAb rfl zAp)))))⟩)
      · replace hb := Nrm.nrm hb
        have hno : st[i]? ≠ some true := (by rw [List.getElem?_eq_getElem his]; simpa using hb)
        refine wp_skip ?_
        refine zBf ?_
        refine zAh hK ?_; clear hK; clear K
        refine zAc ?_
        refine zp E (zBu E rfl rfl rfl (by first | exact zCj (y := 1) (by omega) | exact w_in (by omega) | exact zBy (by omega) | exact rfl)) ?_; clear E a; intro a E
        refine zp E (zAe E rfl rfl) ?_; clear E a; intro a E
        refine wpList_nil ?_
        refine zBe ?_
        first
        | (rw [if_neg hno] at hrest
           exact ⟨_, by omega, i + 1, es, rfl, by omega, hrest, hkey, S.del (A := [(b5, _)]) (by repeat (first | exact pk1 | apply zAa)), E.keep (zAb rfl (zAb rfl (zAb rfl (zAb rfl (zAb rfl zAp)))))⟩)
        | (have S := (S.del (A := [(b5, _)]) (by repeat (first | exact pk1 | apply zAa))).front3 (A := [(x.d, dcl p ygp ygn ypl.length yfa)]) (by repeat (first | exact pk1 | apply zAa)) (B := [(ygp, _)]) (by repeat (first | exact pk1 | apply zAa)) (C := [(ygn, _)]) (by repeat (first | exact pk1 | apply zAa))
           rw [← hsl] at S
           have S := S.perm (zFi p _ _ _ A B ⟨x.d, ygp, ygn, setS ypl x.at_ x.b, ynow, yfa⟩ As).symm
           exact ⟨_, by omega, i + 1, _, rfl, by omega, hrest, hpk.trans hkey, S, E.keep (zAb rfl (zAb rfl (zAb rfl (zAb rfl (zAb rfl zAp)))))⟩)
    · have hb22n := hb22; replace hb22n := Nrm.nrm hb22n
      have hno : st[i]? ≠ some true := (by rw [List.getElem?_eq_none (by omega)]; simp)
      iterate 4 (refine zn E hb22 ?_; clear E a; intro a E)
      refine zp E (zAq E rfl rfl hb22 rfl) ?_; clear E a; intro a E
      refine wpList_nil ?_
      refine zAh hK ?_; clear hK; clear K
      refine zBt E rfl rfl ?_
      refine wp_skip ?_
      refine zBf ?_
      refine zAh hK ?_; clear hK; clear K
      refine zAc ?_
      refine zp E (zBu E rfl rfl rfl (by first | exact zCj (y := 1) (by omega) | exact w_in (by omega) | exact zBy (by omega) | exact rfl)) ?_; clear E a; intro a E
      refine zp E (zAe E rfl rfl) ?_; clear E a; intro a E
      refine wpList_nil ?_
      refine zBe ?_
      first
      | (rw [if_neg hno] at hrest
         exact ⟨_, by omega, i + 1, es, rfl, by omega, hrest, hkey, S.del (A := [(b5, _)]) (by repeat (first | exact pk1 | apply zAa)), E.keep (zAb rfl (zAb rfl (zAb rfl (zAb rfl (zAb rfl zAp)))))⟩)
      | (have S := (S.del (A := [(b5, _)]) (by repeat (first | exact pk1 | apply zAa))).front3 (A := [(x.d, dcl p ygp ygn ypl.length yfa)]) (by repeat (first | exact pk1 | apply zAa)) (B := [(ygp, _)]) (by repeat (first | exact pk1 | apply zAa)) (C := [(ygn, _)]) (by repeat (first | exact pk1 | apply zAa))
         rw [← hsl] at S
         have S := S.perm (zFi p _ _ _ A B ⟨x.d, ygp, ygn, setS ypl x.at_ x.b, ynow, yfa⟩ As).symm
         exact ⟨_, by omega, i + 1, _, rfl, by omega, hrest, hpk.trans hkey, S, E.keep (zAb rfl (zAb rfl (zAb rfl (zAb rfl (zAb rfl zAp)))))⟩)
  · replace hb := Nrm.nrm hb
    refine wp_exit ?_
    refine zBb ?_; clear hK; clear K
    refine zBb ?_
    refine zCm ?_
    refine zAh hK ?_; clear hK; clear K
    refine wp_seq_k ?_; intro K hK
    obtain rfl : i = ws.length := by omega
    rw [List.drop_length, upW] at hrest
    subst hrest
    have hlen : es.length = ds.length := by have := congrArg List.length hkey; simpa using this
    have hok := key_ok hkey hds
    have hkd := key_d hkey
    refine zAc ?_
    iterate 3 (refine zp E (zAe E rfl rfl) ?_; clear E a; intro a E)
    refine zp E (zAl E rfl rfl) ?_; clear E a; intro a E
    refine zp E (by first | exact zAf (q := 0) E rfl rfl rfl | exact zAi (q := 0) E rfl rfl rfl) ?_; clear E a; intro a E
    refine zAo rfl (zBg E S rfl rfl rfl rfl rfl rfl (by repeat (first | exact pk1 | apply zAa)) (by first | exact Nat.le_of_ble_eq_true rfl | (simp; done) | (simp; omega)) ?_); clear E S a; intro a w E S; try dsimp only [List.set] at S
    refine zp E (zAl E rfl rfl) ?_; clear E a; intro a E
    refine zp E (by first | exact zAf (q := 1) E rfl rfl rfl | exact zAi (q := 1) E rfl rfl rfl) ?_; clear E a; intro a E
    refine zAo rfl (zBg E S rfl rfl rfl rfl rfl rfl (by repeat (first | exact pk1 | apply zAa)) (by first | exact Nat.le_of_ble_eq_true rfl | (simp; done) | (simp; omega)) ?_); clear E S a; intro a w E S; try dsimp only [List.set] at S
    refine zp E (zAl E rfl rfl) ?_; clear E a; intro a E
    refine zp E (by first | exact zAf (q := 2) E rfl rfl rfl | exact zAi (q := 2) E rfl rfl rfl) ?_; clear E a; intro a E
    refine zAo rfl (zBg E S rfl rfl rfl rfl rfl rfl (by repeat (first | exact pk1 | apply zAa)) (by first | exact Nat.le_of_ble_eq_true rfl | (simp; done) | (simp; omega)) ?_); clear E S a; intro a w E S; try dsimp only [List.set] at S
    refine wpList_nil ?_
    refine zAh hK ?_; clear hK; clear K
    refine wp_seq_k ?_; intro K hK
    refine zAc ?_
    refine zp E (zAe E rfl rfl) ?_; clear E a; intro a E
    refine zp E (zAl E rfl rfl) ?_; clear E a; intro a E
    refine zp E (by first | exact zAf (q := 4) E rfl rfl rfl | exact zAi (q := 4) E rfl rfl rfl) ?_; clear E a; intro a E
    refine zp E (by first | exact zAn E rfl rfl rfl (S.get (by repeat (first | exact pk1 | apply zAa))) rfl | exact zAj E rfl rfl rfl (by assumption)) ?_; clear E a; intro a E
    refine zp E (by first | exact zCa E rfl rfl rfl | exact zBa E rfl rfl rfl | exact zAt E rfl rfl rfl) ?_; clear E a; intro a E
    refine zp E (zAe E rfl rfl) ?_; clear E a; intro a E
    refine wpList_nil ?_
    refine zAh hK ?_; clear hK; clear K
    refine wp_block ?_
    refine wp_loop_ghost (fun (m : Nat) (a : Act) (w' : World) => ∃ k : Nat, m = ds.length - k ∧ k ≤ ds.length ∧ St w0 ([(p, pcl s (.slice adw ws.length cw) (.slice add ds.length cd))] :: Cw :: Cd :: (chs p ds ++ As)) w' ([(p, pcl ⟨-1, false, s.wr⟩ (.slice none 0 0) (.slice add ds.length cd))] :: Cw :: Cd :: (chs p ((es.take k).map Dk.settle ++ es.drop k) ++ As)) ∧ Fr a 70 [(54, .slice add ds.length cd), (55, .int .i64 ds.length), (56, .int .i64 k)]) (ds.length - 0) ?_ ?_
    · exact ⟨0, rfl, by omega, by simpa using S, E.keep (zAb rfl (zAb rfl (zAb rfl zAp)))⟩
    clear E; clear a; (try clear S); rintro m a w ⟨k, rfl, hk, S, E⟩
    refine wp_seq_k ?_; intro K hK
    refine zAc ?_
    refine zp E (zCb E rfl rfl rfl) ?_; clear E a; intro a E
    refine wpList_nil ?_
    refine zAh hK ?_; clear hK; clear K
    refine wp_seq_k ?_; intro K hK
    refine zBl E rfl (fun hb => ?_) (fun hb => ?_)
    · replace hb := Nrm.nrm hb
      refine wp_skip ?_
      refine zAh hK ?_; clear hK; clear K
      refine wp_seq_k ?_; intro K hK
      refine wp_block ?_
      refine wp_seq_k ?_; intro K hK
      have hkl : k < ds.length := by omega
      have hke : k < es.length := by omega
      obtain ⟨gd, rfl⟩ := hCd.addr (by omega)
      obtain ⟨y, hy⟩ : ∃ y, y = es[k]'hke := ⟨_, rfl⟩
      have hym : y ∈ es := by rw [hy]; exact List.getElem_mem hke
      have hyl := hok.2 y hym
      have hdd : (ds.map fun x => ptr x.d)[k]? = some (ptr y.d) := by
        have h : (ds.map Dk.d)[k]? = some y.d := by rw [← hkd, hy]; simp [hke]
        rw [List.getElem?_map] at h ⊢
        cases hq : ds[k]? with
        | none => rw [hq] at h; simp at h
        | some z => rw [hq] at h; simp at h; simp [h]
      rw [List.drop_eq_getElem_cons hke, ← hy] at S
      have S := S.perm (zFi p _ _ _ ((es.take k).map Dk.settle) (es.drop (k + 1)) y As)
      obtain ⟨yd, ygp, ygn, ypl, ynow, yfa⟩ := y
      simp only at hyl hdd
      have S : St w0 _ _ ([(yd, dcl p ygp ygn ypl.length yfa)] :: [(ygp, cel (byt ypl) 5)] :: [(ygn, cel (byt ynow) 5)] :: _) := S
      refine zAc ?_
      refine zp E (zBk (i := k) E rfl rfl rfl rfl rfl rfl (by omega)) ?_; clear E a; intro a E
      refine zp E (zAj E rfl rfl rfl (hCd.rd.cells (S.stab.at (by repeat (first | exact mm1 | assumption | apply List.Mem.tail))) rfl k _ hdd)) ?_; clear E a; intro a E
      refine zp E (zAg E rfl rfl) ?_; clear E a; intro a E
      refine wpList_nil ?_
      refine zAh hK ?_; clear hK; clear K
      have hR := zCr (g := ygp) (T := 5) (xs := byt ypl) (s := 1) (m := ypl.length) (by rw [zBm]; omega) (zDv ypl) (by omega) ypl.length
      refine zBo S (.ofL [(0, 0), (1, 0), (2, 0), (3, 0), (4, 0), (5, 0), (6, 0), (7, 0), (8, 3)]) (by kernel_rfl) (by kernel_rfl) ?_
      clear S; intro w S
      refine zm E rfl (fun w h => zAe E rfl rfl) ?_; clear E a; intro a E
      refine zm E rfl (fun w h => zAl E rfl rfl) ?_; clear E a; intro a E
      refine zm E rfl (fun w h => by first | exact zAf (q := 2) E rfl rfl rfl | exact zAi (q := 2) E rfl rfl rfl) ?_; clear E a; intro a E
      refine zm E rfl (fun w h => by first | exact zAn E rfl rfl rfl (h.one (by repeat (first | exact mm1 | assumption | apply List.Mem.tail))) rfl | exact zAj E rfl rfl rfl (by assumption)) ?_; clear E a; intro a E
      refine zm E rfl (fun w h => zAe E rfl rfl) ?_; clear E a; intro a E
      refine zm E rfl (fun w h => zAl E rfl rfl) ?_; clear E a; intro a E
      refine zm E rfl (fun w h => by first | exact zAf (q := 1) E rfl rfl rfl | exact zAi (q := 1) E rfl rfl rfl) ?_; clear E a; intro a E
      refine zm E rfl (fun w h => by first | exact zAn E rfl rfl rfl (h.one (by repeat (first | exact mm1 | assumption | apply List.Mem.tail))) rfl | exact zAj E rfl rfl rfl (by assumption)) ?_; clear E a; intro a E
      refine zCq rfl rfl (zGk E S rfl rfl (by decide) rfl rfl (by repeat (first | exact pk1 | apply zAa)) (hR.copySrc (S.stab.at (by repeat (first | exact mm1 | assumption | apply List.Mem.tail))) rfl) rfl rfl (by rw [zBm]; omega) ?_); clear E S a; intro a w E S
      rw [zIo (by rw [zBm]; exact hyl.1) (zBm ypl)] at S
      refine zBs ?_
      refine zBf ?_
      refine zAh hK ?_; clear hK; clear K
      refine zAc ?_
      refine zp E (zBu E rfl rfl rfl (by first | exact zCj (y := 1) (by omega) | exact w_in (by omega) | exact zBy (by omega) | exact rfl)) ?_; clear E a; intro a E
      refine zp E (zAe E rfl rfl) ?_; clear E a; intro a E
      refine wpList_nil ?_
      refine zBe ?_
      have S := S.front3 (A := [(yd, dcl p ygp ygn ypl.length yfa)]) (by repeat (first | exact pk1 | apply zAa)) (B := [(ygp, cel (byt ypl) 5)]) (by repeat (first | exact pk1 | apply zAa)) (C := [(ygn, cel (byt ypl) 5)]) (by repeat (first | exact pk1 | apply zAa))
      have S := S.perm (zFi p _ _ _ ((es.take k).map Dk.settle) (es.drop (k + 1)) ⟨yd, ygp, ygn, ypl, ypl, yfa⟩ As).symm
      have htk : (es.take (k + 1)).map Dk.settle ++ es.drop (k + 1) = (es.take k).map Dk.settle ++ ⟨yd, ygp, ygn, ypl, ypl, yfa⟩ :: es.drop (k + 1) := by
        rw [← List.take_append_getElem hke, List.map_append, List.append_assoc, ← hy]; rfl
      exact ⟨_, by omega, k + 1, rfl, by omega, by rw [htk]; exact S, E.keep (zAb rfl (zAb rfl (zAb rfl zAp)))⟩
    · replace hb := Nrm.nrm hb
      refine wp_exit ?_
      refine zBb ?_; clear hK; clear K
      refine zBb ?_
      refine zCm ?_
      refine end0 E rfl ?_
      obtain rfl : k = ds.length := by omega
      rw [← hlen, List.take_length, List.drop_length, List.append_nil, hlen] at S
      exact ⟨_, rfl, (S.del (A := Cw) (by repeat (first | exact pk1 | apply zAa))).tr⟩
end Go.Proofs.YtidhehcjafoneaaGreatDoor
