/-
  Texts put together (16).
-/
import Derived.Test.YtbogecljkaimdaaGreatDoorZRecordStreams15
namespace Go.Proofs.YtbogecljkaimdaaGreatDoor
open Go.Sl
set_option maxRecDepth 10000
theorem ukeep_ret (p : Nat) (s : Rdr) (A : zAy) (hA : RdC 118 p s A) (size : Nat) (less : Int) (h4 : size ≤ 4) (hl : 0 ≤ less ∧ less ≤ 1) (w0 : World) (H : Hp w0 [A]) :
    Ret Tryz.prog 109 #[ptr p, .int .i64 size, .int .i64 less] w0 fun u w' => ∃ A' C, RdC 118 p (zGi s size less).2 A' ∧ Buf C 3 1 u (zGi s size less).1.length (ints (zGi s size less).1) ∧ Trs w0 w' [A] [A', C] := by
  have S := St.begin H
  have hn2 : (s.num 2).1 < 65536 := zDk s 2
  refine zGk 34 Tryz.func109 rfl rfl (by decide) ?_; intro a E
  refine wp_seq_k ?_; intro K hK
  refine zAb ?_
  refine zp E (zAd E rfl rfl) ?_; clear E a; intro a E
  refine wpList_nil ?_
  refine zAf hK ?_; clear hK; clear K
  refine wp_seq_k ?_; intro K hK
  refine zAb ?_
  refine zp E (zAd E rfl rfl) ?_; clear E a; intro a E
  refine wpList_nil ?_
  refine zAf hK ?_; clear hK; clear K
  refine wp_seq_k ?_; intro K hK
  refine zAb ?_
  refine zp E (zAe E rfl rfl) ?_; clear E a; intro a E
  refine zAp E rfl rfl (by decide) rfl Tryz.func107 rfl (by kernel_rfl) rfl (zEs p s A _ hA (S.hp.sel (zAk (by repeat (first | exact pk1 | apply zAc)) (zAr _))) 2) ?_
  rintro v12 w ⟨A1, rfl, hA1, hT⟩; clear E a; intro a E
  replace S := S.call1 (zAk (by repeat (first | exact pk1 | apply zAc)) (zAr _)) hT; obtain ⟨n, hn⟩ : ∃ n, n = (s.num 2).1 := ⟨_, rfl⟩; rw [← hn] at E hn2; obtain ⟨q, hq⟩ : ∃ q, q = min n 241 := ⟨_, rfl⟩
  refine zp E (zAd E rfl rfl) ?_; clear E a; intro a E
  refine wpList_nil ?_
  refine zAf hK ?_; clear hK; clear K
  iterate 2 (refine wp_seq_k ?_; intro K hK)
  refine zAb ?_
  refine zp E (zAd E rfl rfl) ?_; clear E a; intro a E
  refine wpList_nil ?_
  refine zAf hK ?_; clear hK; clear K
  refine wp_block ?_
  refine wp_loop_ghost (fun (m : Nat) (a : Act) (w' : World) => ∃ (i : Nat) (A' C : zAy) (v : Value), m = q - i ∧ i ≤ q ∧ RdC 118 p (zGf size less (s.num 2).2 i).2 A' ∧ Buf C 3 1 v i (ints (zGf size less (s.num 2).2 i).1) ∧ St w0 [A] w' [A', C] ∧ Fr a 34 [(0, ptr p), (1, .int .i64 size), (2, .int .i64 less), (6, nilv), (7, v), (8, .int .u64 n), (9, .int .i64 i)]) (q) ?_ ?_
  · exact ⟨0, A1, [], _, by omega, by omega, hA1, Buf.nil _ _, S.addNil.perm2, E.keep (zAa rfl (zAa rfl (zAa rfl (zAa rfl (zAa rfl (zAa rfl (zAa rfl zAm)))))))⟩
  clear E; clear a; (try clear S); rintro m a w ⟨i, A', C, v, rfl, hi, hA', hB, S, E⟩
  iterate 2 (refine wp_seq_k ?_; intro K hK)
  refine zDw (fun (a : Act) (w' : World) => ∃ z, (z = true ↔ i < q) ∧ St w0 [A] w' [A', C] ∧ Fr a 34 [(0, ptr p), (1, .int .i64 size), (2, .int .i64 less), (6, nilv), (7, v), (8, .int .u64 n), (9, .int .i64 i), (20, .bool z)]) ?_ ?_
  · skip
    refine zAb ?_
    iterate 2 (refine zp E (zAe E rfl rfl) ?_; clear E a; intro a E)
    refine zp E (by first | exact zBe E rfl rfl rfl rfl (by first | exact wu8 _ | exact zDy (by omega) | exact zDd (by omega) | exact w_in (by omega) | exact zBt (by omega) | exact rfl) | exact zCa E rfl rfl rfl rfl rfl (by assumption) (S.stab.at (by simp))) ?_; clear E a; intro a E
    refine zp E (zCn E rfl rfl rfl) ?_; clear E a; intro a E
    refine zp E (zAe E rfl rfl) ?_; clear E a; intro a E
    refine zAs E (t := 17) rfl (fun hb17 => ?_) (fun hb17 => ?_)
    · have hb17n := hb17; replace hb17n := Nrm.nrm hb17n
      refine zy E hb17 (zAe E rfl rfl) ?_; clear E a; intro a E
      refine zy E hb17 (zCn E rfl rfl rfl) ?_; clear E a; intro a E
      refine zp E (zAl E rfl rfl hb17 rfl) ?_; clear E a; intro a E
      refine wpList_nil ?_
      refine zAu ?_
      exact ⟨_, ⟨fun q => by first | omega | (simp only [decide_eq_true_eq] at q; omega) | (simp at q; omega) | exact Bool.noConfusion q, fun q => by first | rfl | (simp only [decide_eq_true_eq]; omega) | (exfalso; omega) | (simp; omega)⟩, S, E.keep (zAa rfl (zAa rfl (zAa rfl (zAa rfl (zAa rfl (zAa rfl (zAa rfl (zAa rfl zAm))))))))⟩
    · have hb17n := hb17; replace hb17n := Nrm.nrm hb17n
      iterate 2 (refine zn E hb17 ?_; clear E a; intro a E)
      refine zp E (zAi E rfl rfl hb17 rfl) ?_; clear E a; intro a E
      refine wpList_nil ?_
      refine zAu ?_
      exact ⟨_, ⟨fun q => by first | omega | (simp only [decide_eq_true_eq] at q; omega) | (simp at q; omega) | exact Bool.noConfusion q, fun q => by first | rfl | (simp only [decide_eq_true_eq]; omega) | (exfalso; omega) | (simp; omega)⟩, S, E.keep (zAa rfl (zAa rfl (zAa rfl (zAa rfl (zAa rfl (zAa rfl (zAa rfl (zAa rfl zAm))))))))⟩
  · clear E S a; intro a w J; obtain ⟨z, hz, S, E⟩ := J
    refine zAf hK ?_; clear hK; clear K
    refine zBf E rfl (fun hb => ?_) (fun hb => ?_)
    · replace hb := Nrm.nrm hb
      have hiq := hz.1 hb
      refine wp_skip ?_
      refine zAf hK ?_; clear hK; clear K
      refine wp_seq_k ?_; intro K hK
      refine wp_block ?_
      refine wp_seq_k ?_; intro K hK
      have hlt : ((zGf size less (s.num 2).2 i).2.num size).1 < 4294967296 := Nat.lt_of_lt_of_le (zDk _ size) (Nat.pow_le_pow_right (n := 256) (by omega) h4)
      refine zAb ?_
      iterate 2 (refine zp E (zAe E rfl rfl) ?_; clear E a; intro a E)
      refine zAp E rfl rfl (by decide) rfl Tryz.func107 rfl (by kernel_rfl) rfl (zEs p _ A' _ hA' (S.hp.sel (zAk (by repeat (first | exact pk1 | apply zAc)) (zAr _))) size) ?_
      rintro v25 w ⟨A2, rfl, hA2, hT⟩; clear E a; intro a E
      replace S := S.call1 (zAk (by repeat (first | exact pk1 | apply zAc)) (zAr _)) hT; obtain ⟨x, hx⟩ : ∃ x, x = ((zGf size less (s.num 2).2 i).2.num size).1 := ⟨_, rfl⟩; rw [← hx] at E hlt
      refine zp E (zAd E rfl rfl) ?_; clear E a; intro a E
      refine wpList_nil ?_
      refine zAf hK ?_; clear hK; clear K
      refine zAb ?_
      iterate 2 (refine zp E (zAe E rfl rfl) ?_; clear E a; intro a E)
      refine zp E (by first | exact zBe E rfl rfl rfl rfl (by first | exact wu8 _ | exact zDy (by omega) | exact zDd (by omega) | exact w_in (by omega) | exact zBt (by omega) | exact rfl) | exact zCa E rfl rfl rfl rfl rfl (by assumption) (S.stab.at (by simp))) ?_; clear E a; intro a E
      refine zp E (zAe E rfl rfl) ?_; clear E a; intro a E
      refine zp E (zDs E rfl rfl rfl (w_in (by omega))) ?_; clear E a; intro a E
      refine zAn rfl (zDg (cells := [_]) E S rfl rfl (by decide) rfl rfl rfl rfl rfl (by decide) rfl ?_); clear E S a; intro a w b31 E S
      refine zAn rfl (zCq (by' := 8) E S rfl rfl (by decide) rfl rfl hB (by repeat (first | exact pk1 | apply zAc)) ((zEp (g := b31) (T := 3) (xs := [.int .i64 ((x : Int) - less)]) (s := 1) (m := 1) rfl (by simp [Value.oneCell']) (by omega) 1).src (S.stab.at (by repeat (first | exact mm1 | assumption | apply List.Mem.tail))) rfl) rfl rfl rfl rfl rfl rfl (by simp only [maxLen]; omega) (by omega) ?_); clear E S a; intro a w v32 C32 E S hB32
      refine zp E (zAd E rfl rfl) ?_; clear E a; intro a E
      refine wpList_nil ?_
      refine zBi ?_
      refine zAf hK ?_; clear hK; clear K
      refine zAb ?_
      refine zp E (zAe E rfl rfl) ?_; clear E a; intro a E
      refine zp E (zBu E rfl rfl rfl (by first | exact zCl (y := 1) (by omega) | exact w_in (by omega) | exact zBt (by omega) | exact rfl)) ?_; clear E a; intro a E
      refine zp E (zAd E rfl rfl) ?_; clear E a; intro a E
      refine wpList_nil ?_
      refine zBq ?_
      have hB2 : Buf C32 3 1 v32 (i + 1) (ints (zGf size less (s.num 2).2 (i + 1)).1) := by
        rw [zGf, ← hx]; simp only [ints, List.map_append]; exact hB32
      exact ⟨_, by omega, i + 1, A2, C32, v32, rfl, by omega, hA2, hB2, (St.drops2 [_] (S.front2 (A := A2) (B := C32) (by repeat (first | exact pk1 | apply zAc)) (by repeat (first | exact pk1 | apply zAc)))), E.keep (zAa rfl (zAa rfl (zAa rfl (zAa rfl (zAa rfl (zAa rfl (zAa rfl zAm)))))))⟩
    · replace hb := Nrm.nrm hb
      have hiq : ¬ i < q := fun h => by rw [hz.2 h] at hb; cases hb
      refine wp_exit ?_
      refine zBc ?_; clear hK; clear K
      refine zBc ?_
      refine zCj ?_
      refine zAf hK ?_; clear hK; clear K
      refine wp_seq_k ?_; intro K hK
      refine zAb ?_
      refine zp E (zAe E rfl rfl) ?_; clear E a; intro a E
      refine zp E (zAd E rfl rfl) ?_; clear E a; intro a E
      refine wpList_nil ?_
      refine zAf hK ?_; clear hK; clear K
      refine wp_ret ?_
      refine ret1 E rfl rfl ?_
      obtain rfl : i = q := by omega
      have hk : zGi s size less = zGf size less (s.num 2).2 i := by rw [zGi, ← hn, ← hq]
      rw [hk, zKz]
      exact ⟨_, rfl, A', C, hA', hB, S.tr⟩
theorem ubegun_ret (p : Nat) (s : Rdr) (A : zAy) (hA : RdC 118 p s A) (w0 : World) (H : Hp w0 [A]) :
    Ret Tryz.prog 108 #[ptr p] w0 fun u w' => ∃ A' D pv kv dv, u = .agg ((zIk 2 s).1.cells pv kv dv).toArray ∧ RdC 118 p (zIk 2 s).2 A' ∧ zLa D (zIk 2 s).1 pv kv dv ∧ Trs w0 w' [A] [A', D] := by
  have S := St.begin H
  obtain ⟨x0, h0⟩ : ∃ x, x = s.text 240 := ⟨_, rfl⟩
  obtain ⟨x1, h1⟩ : ∃ x, x = x0.2.num 1 := ⟨_, rfl⟩
  obtain ⟨x2, h2⟩ : ∃ x, x = x1.2.num 6 := ⟨_, rfl⟩
  obtain ⟨x3, h3⟩ : ∃ x, x = x2.2.num 6 := ⟨_, rfl⟩
  obtain ⟨x4, h4⟩ : ∃ x, x = x3.2.num 1 := ⟨_, rfl⟩
  obtain ⟨x5, h5⟩ : ∃ x, x = x4.2.text 24 := ⟨_, rfl⟩
  obtain ⟨x6, h6⟩ : ∃ x, x = x5.2.num 1 := ⟨_, rfl⟩
  have n1 : x1.1 < 256 := by rw [h1]; exact zDk _ 1
  have n2 : x2.1 < 281474976710656 := by rw [h2]; exact zDk _ 6
  have n3 : x3.1 < 281474976710656 := by rw [h3]; exact zDk _ 6
  have n4 : x4.1 < 256 := by rw [h4]; exact zDk _ 1
  have n6 : x6.1 < 256 := by rw [h6]; exact zDk _ 1
  obtain ⟨r1, hr1⟩ : ∃ r1 : Rec, r1 = { zDx 2 with name := x0.1, typ := x1.1, frm := x2.1, guid := x3.1, origin := x4.1, snap := x5.1 } := ⟨_, rfl⟩
  have htk : zIk 2 s = ({ r1 with props := (prpS x6.2 x6.1).1 }, (prpS x6.2 x6.1).2) := by rw [hr1, h6, h5, h4, h3, h2, h1, h0]; rfl
  refine zCx 60 Tryz.func108 rfl rfl (by decide) ?_; intro a E
  refine wp_seq_k ?_; intro K hK
  refine zAb ?_
  refine zAn rfl (zBs E S rfl rfl (by decide) rfl rfl rfl ?_); clear E S a; intro a w b2 E S
  refine wpList_nil ?_
  refine zAf hK ?_; clear hK; clear K
  refine wp_seq_k ?_; intro K hK
  refine zAb ?_
  refine zp E (zCh (cells := [_, _, _, _, _, _, _, _, _, _, _, _, _]) E rfl rfl rfl) ?_; clear E a; intro a E
  refine zAn rfl (zBs E S rfl rfl (by decide) rfl rfl rfl ?_); clear E S a; intro a w b3 E S
  refine zAn rfl (zAz E S rfl rfl rfl rfl (by simp [Value.oneCell']) rfl (by repeat (first | exact pk1 | apply zAc)) (by simp) ?_); clear E S a; intro a w E S; simp only [List.take_succ_cons, List.take_zero, List.drop_succ_cons, List.drop_zero, List.cons_append, List.nil_append, List.append_nil, List.length_cons, List.length_nil, Nat.zero_add, Nat.add_zero] at S
  refine wpList_nil ?_
  refine zAf hK ?_; clear hK; clear K
  refine wp_seq_k ?_; intro K hK
  refine zAb ?_
  refine zp E (zAe E rfl rfl) ?_; clear E a; intro a E
  refine zAp E rfl rfl (by decide) rfl Tryz.func106 rfl (by kernel_rfl) rfl (zHt p s A _ hA (S.hp.sel (zAk (by repeat (first | exact pk1 | apply zAc)) (zAr _))) 240) ?_
  rintro v14 w ⟨A1, rfl, hA1, hT⟩; clear E a; intro a E
  replace S := S.call1 (zAk (by repeat (first | exact pk1 | apply zAc)) (zAr _)) hT; rw [← h0] at E hA1
  refine zp E (by first | exact zAg (q := 1) E rfl rfl rfl | exact zAh (q := 1) E rfl rfl rfl) ?_; clear E a; intro a E
  refine zAn rfl (zBo E S rfl rfl rfl rfl rfl rfl (by repeat (first | exact pk1 | apply zAc)) (by first | exact Nat.le_of_ble_eq_true rfl | (simp; done) | (simp; omega)) ?_); clear E S a; intro a w E S; try dsimp only [List.set] at S
  refine wpList_nil ?_
  refine zAf hK ?_; clear hK; clear K
  refine wp_seq_k ?_; intro K hK
  refine zAb ?_
  refine zp E (zAe E rfl rfl) ?_; clear E a; intro a E
  refine zAp E rfl rfl (by decide) rfl Tryz.func107 rfl (by kernel_rfl) rfl (zEs p _ A1 _ hA1 (S.hp.sel (zAk (by repeat (first | exact pk1 | apply zAc)) (zAr _))) 1) ?_
  rintro v17 w ⟨A2, rfl, hA2, hT⟩; clear E a; intro a E
  replace S := S.call1 (zAk (by repeat (first | exact pk1 | apply zAc)) (zAr _)) hT; rw [← h1] at E hA2
  refine zp E (zAd E rfl rfl) ?_; clear E a; intro a E
  refine wpList_nil ?_
  refine zAf hK ?_; clear hK; clear K
  refine wp_seq_k ?_; intro K hK
  refine zAb ?_
  refine zp E (zAe E rfl rfl) ?_; clear E a; intro a E
  refine zAp E rfl rfl (by decide) rfl Tryz.func107 rfl (by kernel_rfl) rfl (zEs p _ A2 _ hA2 (S.hp.sel (zAk (by repeat (first | exact pk1 | apply zAc)) (zAr _))) 6) ?_
  rintro v19 w ⟨A3, rfl, hA3, hT⟩; clear E a; intro a E
  replace S := S.call1 (zAk (by repeat (first | exact pk1 | apply zAc)) (zAr _)) hT; rw [← h2] at E hA3
  refine zp E (zAd E rfl rfl) ?_; clear E a; intro a E
  refine wpList_nil ?_
  refine zAf hK ?_; clear hK; clear K
  refine wp_seq_k ?_; intro K hK
  refine zAb ?_
  refine zp E (zAe E rfl rfl) ?_; clear E a; intro a E
  refine zAp E rfl rfl (by decide) rfl Tryz.func107 rfl (by kernel_rfl) rfl (zEs p _ A3 _ hA3 (S.hp.sel (zAk (by repeat (first | exact pk1 | apply zAc)) (zAr _))) 6) ?_
  rintro v21 w ⟨A4, rfl, hA4, hT⟩; clear E a; intro a E
  replace S := S.call1 (zAk (by repeat (first | exact pk1 | apply zAc)) (zAr _)) hT; rw [← h3] at E hA4
  refine zp E (zAd E rfl rfl) ?_; clear E a; intro a E
  refine wpList_nil ?_
  refine zAf hK ?_; clear hK; clear K
  refine wp_seq_k ?_; intro K hK
  refine zAb ?_
  refine zp E (zAe E rfl rfl) ?_; clear E a; intro a E
  refine zAp E rfl rfl (by decide) rfl Tryz.func107 rfl (by kernel_rfl) rfl (zEs p _ A4 _ hA4 (S.hp.sel (zAk (by repeat (first | exact pk1 | apply zAc)) (zAr _))) 1) ?_
  rintro v23 w ⟨A5, rfl, hA5, hT⟩; clear E a; intro a E
  replace S := S.call1 (zAk (by repeat (first | exact pk1 | apply zAc)) (zAr _)) hT; rw [← h4] at E hA5
  refine zp E (zAd E rfl rfl) ?_; clear E a; intro a E
  refine wpList_nil ?_
  refine zAf hK ?_; clear hK; clear K
  refine wp_seq_k ?_; intro K hK
  refine zAb ?_
  refine zp E (zAe E rfl rfl) ?_; clear E a; intro a E
  refine zp E (by first | exact zBe E rfl rfl rfl rfl (by first | exact wu8 _ | exact zDy (by omega) | exact zDd (by omega) | exact w_in (by omega) | exact zBt (by omega) | exact rfl) | exact zCa E rfl rfl rfl rfl rfl (by assumption) (S.stab.at (by simp))) ?_; clear E a; intro a E
  refine zp E (zAe E rfl rfl) ?_; clear E a; intro a E
  refine zp E (by first | exact zBe E rfl rfl rfl rfl (by first | exact wu8 _ | exact zDy (by omega) | exact zDd (by omega) | exact w_in (by omega) | exact zBt (by omega) | exact rfl) | exact zCa E rfl rfl rfl rfl rfl (by assumption) (S.stab.at (by simp))) ?_; clear E a; intro a E
  refine zp E (zAe E rfl rfl) ?_; clear E a; intro a E
  refine zp E (by first | exact zBe E rfl rfl rfl rfl (by first | exact wu8 _ | exact zDy (by omega) | exact zDd (by omega) | exact w_in (by omega) | exact zBt (by omega) | exact rfl) | exact zCa E rfl rfl rfl rfl rfl (by assumption) (S.stab.at (by simp))) ?_; clear E a; intro a E
  refine zp E (zAe E rfl rfl) ?_; clear E a; intro a E
  refine zp E (by first | exact zBe E rfl rfl rfl rfl (by first | exact wu8 _ | exact zDy (by omega) | exact zDd (by omega) | exact w_in (by omega) | exact zBt (by omega) | exact rfl) | exact zCa E rfl rfl rfl rfl rfl (by assumption) (S.stab.at (by simp))) ?_; clear E a; intro a E
  refine zp E (by first | exact zAg (q := 2) E rfl rfl rfl | exact zAh (q := 2) E rfl rfl rfl) ?_; clear E a; intro a E
  refine zAn rfl (zBo E S rfl rfl rfl rfl rfl rfl (by repeat (first | exact pk1 | apply zAc)) (by first | exact Nat.le_of_ble_eq_true rfl | (simp; done) | (simp; omega)) ?_); clear E S a; intro a w E S; try dsimp only [List.set] at S
  refine zp E (by first | exact zAg (q := 3) E rfl rfl rfl | exact zAh (q := 3) E rfl rfl rfl) ?_; clear E a; intro a E
  refine zAn rfl (zBo E S rfl rfl rfl rfl rfl rfl (by repeat (first | exact pk1 | apply zAc)) (by first | exact Nat.le_of_ble_eq_true rfl | (simp; done) | (simp; omega)) ?_); clear E S a; intro a w E S; try dsimp only [List.set] at S
  refine zp E (by first | exact zAg (q := 4) E rfl rfl rfl | exact zAh (q := 4) E rfl rfl rfl) ?_; clear E a; intro a E
  refine zAn rfl (zBo E S rfl rfl rfl rfl rfl rfl (by repeat (first | exact pk1 | apply zAc)) (by first | exact Nat.le_of_ble_eq_true rfl | (simp; done) | (simp; omega)) ?_); clear E S a; intro a w E S; try dsimp only [List.set] at S
  refine zp E (by first | exact zAg (q := 5) E rfl rfl rfl | exact zAh (q := 5) E rfl rfl rfl) ?_; clear E a; intro a E
  refine zAn rfl (zBo E S rfl rfl rfl rfl rfl rfl (by repeat (first | exact pk1 | apply zAc)) (by first | exact Nat.le_of_ble_eq_true rfl | (simp; done) | (simp; omega)) ?_); clear E S a; intro a w E S; try dsimp only [List.set] at S
  refine wpList_nil ?_
  refine zAf hK ?_; clear hK; clear K
  refine wp_seq_k ?_; intro K hK
  replace E := E.keep (e' := [(0, _), (2, _), (3, _)]) (zAa rfl (zAa rfl (zAa rfl (zAm))))
  refine zAb ?_
  refine zp E (zAe E rfl rfl) ?_; clear E a; intro a E
  refine zAp E rfl rfl (by decide) rfl Tryz.func106 rfl (by kernel_rfl) rfl (zHt p _ A5 _ hA5 (S.hp.sel (zAk (by repeat (first | exact pk1 | apply zAc)) (zAr _))) 24) ?_
  rintro v37 w ⟨A6, rfl, hA6, hT⟩; clear E a; intro a E
  replace S := S.call1 (zAk (by repeat (first | exact pk1 | apply zAc)) (zAr _)) hT; rw [← h5] at E hA6
  refine zp E (by first | exact zAg (q := 6) E rfl rfl rfl | exact zAh (q := 6) E rfl rfl rfl) ?_; clear E a; intro a E
  refine zAn rfl (zBo E S rfl rfl rfl rfl rfl rfl (by repeat (first | exact pk1 | apply zAc)) (by first | exact Nat.le_of_ble_eq_true rfl | (simp; done) | (simp; omega)) ?_); clear E S a; intro a w E S; try dsimp only [List.set] at S
  refine wpList_nil ?_
  refine zAf hK ?_; clear hK; clear K
  refine wp_seq_k ?_; intro K hK
  refine zAb ?_
  refine zp E (zAe E rfl rfl) ?_; clear E a; intro a E
  refine zAp E rfl rfl (by decide) rfl Tryz.func107 rfl (by kernel_rfl) rfl (zEs p _ A6 _ hA6 (S.hp.sel (zAk (by repeat (first | exact pk1 | apply zAc)) (zAr _))) 1) ?_
  rintro v40 w ⟨A7, rfl, hA7, hT⟩; clear E a; intro a E
  replace S := S.call1 (zAk (by repeat (first | exact pk1 | apply zAc)) (zAr _)) hT; rw [← h6] at E hA7
  refine zp E (zAd E rfl rfl) ?_; clear E a; intro a E
  refine wpList_nil ?_
  refine zAf hK ?_; clear hK; clear K
  iterate 2 (refine wp_seq_k ?_; intro K hK)
  refine zAb ?_
  refine zp E (zAd E rfl rfl) ?_; clear E a; intro a E
  refine wpList_nil ?_
  refine zAf hK ?_; clear hK; clear K
  refine wp_block ?_
  refine wp_loop_ghost (fun (m : Nat) (a : Act) (w' : World) => ∃ (i : Nat) (A' D1 : zAy) (v : Value), m = x6.1 - i ∧ i ≤ x6.1 ∧ RdC 118 p (prpS x6.2 i).2 A' ∧ Buf D1 70 2 v i ((prpS x6.2 i).1.flatMap Prp.lay) ∧ St w0 [A] w' [A', [(b3, cel [.int .i64 2, str x0.1, .int .i64 x1.1, .int .i64 x2.1, .int .i64 x3.1, .int .i64 x4.1, str x5.1, v, .int .i64 0, .int .i64 0, .int .i64 0, nilv, nilv] 26)], D1, [(b2, cel [.int .i64 0, str [], .int .i64 0, .int .i64 0, .int .i64 0, .int .i64 0, str [], nilv, .int .i64 0, .int .i64 0, .int .i64 0, nilv, nilv] 26)]] ∧ Fr a 60 [(0, ptr p), (2, ptr b2), (3, ptr b3), (8, .int .u64 x6.1), (9, .int .i64 i)]) (x6.1) ?_ ?_
  · exact ⟨0, A7, [], nilv, by omega, by omega, hA7, Buf.nil _ _, S.addNil.perm (Bs := [A7, [(b3, _)], [], [(b2, _)]]) (zAk (by repeat (first | exact pk1 | apply zAc)) (zAk (by repeat (first | exact pk1 | apply zAc)) (zAk (by repeat (first | exact pk1 | apply zAc)) (zAk (by repeat (first | exact pk1 | apply zAc)) (zAr _))))), E.keep (zAa rfl (zAa rfl (zAa rfl (zAa rfl (zAa rfl zAm)))))⟩
  clear E; clear a; (try clear S); rintro m a w ⟨i, A', D1, v, rfl, hi, hA', hB, S, E⟩
  iterate 2 (refine wp_seq_k ?_; intro K hK)
  refine zAb ?_
  iterate 2 (refine zp E (zAe E rfl rfl) ?_; clear E a; intro a E)
  refine zp E (by first | exact zBe E rfl rfl rfl rfl (by first | exact wu8 _ | exact zDy (by omega) | exact zDd (by omega) | exact w_in (by omega) | exact zBt (by omega) | exact rfl) | exact zCa E rfl rfl rfl rfl rfl (by assumption) (S.stab.at (by simp))) ?_; clear E a; intro a E
  refine zp E (zCn E rfl rfl rfl) ?_; clear E a; intro a E
  refine wpList_nil ?_
  refine zAf hK ?_; clear hK; clear K
  refine zBf E rfl (fun hb => ?_) (fun hb => ?_)
  · replace hb := Nrm.nrm hb
    refine wp_skip ?_
    refine zAf hK ?_; clear hK; clear K
    refine wp_seq_k ?_; intro K hK
    refine wp_block ?_
    refine wp_seq_k ?_; intro K hK
    obtain ⟨adv, cv, rfl⟩ := hB.slice
    refine zAb ?_
    refine zp E (zAe E rfl rfl) ?_; clear E a; intro a E
    refine zAp E rfl rfl (by decide) rfl Tryz.func106 rfl (by kernel_rfl) rfl (zHt p _ A' _ hA' (S.hp.sel (zAk (by repeat (first | exact pk1 | apply zAc)) (zAr _))) 24) ?_
    rintro v48 w ⟨B1, rfl, hB1, hT⟩; clear E a; intro a E
    replace S := S.call1 (zAk (by repeat (first | exact pk1 | apply zAc)) (zAr _)) hT; obtain ⟨y, hy⟩ : ∃ y, y = (prpS x6.2 i).2.text 24 := ⟨_, rfl⟩; rw [← hy] at E hB1
    refine zp E (zAd E rfl rfl) ?_; clear E a; intro a E
    refine wpList_nil ?_
    refine zAf hK ?_; clear hK; clear K
    refine wp_seq_k ?_; intro K hK
    refine zAb ?_
    refine zp E (zAe E rfl rfl) ?_; clear E a; intro a E
    refine zAp E rfl rfl (by decide) rfl Tryz.func106 rfl (by kernel_rfl) rfl (zHt p _ B1 _ hB1 (S.hp.sel (zAk (by repeat (first | exact pk1 | apply zAc)) (zAr _))) 64) ?_
    rintro v50 w ⟨B2, rfl, hB2, hT⟩; clear E a; intro a E
    replace S := S.call1 (zAk (by repeat (first | exact pk1 | apply zAc)) (zAr _)) hT; obtain ⟨z, hz⟩ : ∃ z, z = y.2.text 64 := ⟨_, rfl⟩; rw [← hz] at E hB2
    refine zp E (zAd E rfl rfl) ?_; clear E a; intro a E
    refine wpList_nil ?_
    refine zAf hK ?_; clear hK; clear K
    refine zAb ?_
    refine zp E (by first | exact zAg (q := 7) E rfl rfl rfl | exact zAh (q := 7) E rfl rfl rfl) ?_; clear E a; intro a E
    refine zp E (by first | exact zAo E rfl rfl rfl (S.get (by repeat (first | exact pk1 | apply zAc))) rfl | exact zAj E rfl rfl rfl (by assumption)) ?_; clear E a; intro a E
    iterate 2 (refine zp E (zAe E rfl rfl) ?_; clear E a; intro a E)
    refine zp E (zCh (cells := [_, _]) E rfl rfl rfl) ?_; clear E a; intro a E
    refine zAn rfl (zDg (cells := [_, _]) E S rfl rfl (by decide) rfl rfl rfl rfl rfl (by decide) rfl ?_); clear E S a; intro a w b56 E S
    refine zAn rfl (zCq (by' := 32) E S rfl rfl (by decide) rfl rfl hB (by repeat (first | exact pk1 | apply zAc)) ((zEp (g := b56) (T := 70) (xs := [str y.1, str z.1]) (s := 2) (m := 1) rfl (by simp [Value.oneCell']) (by omega) 1).src (S.stab.at (by repeat (first | exact mm1 | assumption | apply List.Mem.tail))) rfl) rfl rfl rfl rfl rfl rfl (by simp only [maxLen]; omega) (by omega) ?_); clear E S a; intro a w v57 C57 E S hB57
    obtain ⟨ad2, c2, rfl⟩ := hB57.slice
    refine zp E (by first | exact zAg (q := 7) E rfl rfl rfl | exact zAh (q := 7) E rfl rfl rfl) ?_; clear E a; intro a E
    refine zAn rfl (zBo E S rfl rfl rfl rfl rfl rfl (by repeat (first | exact pk1 | apply zAc)) (by first | exact Nat.le_of_ble_eq_true rfl | (simp; done) | (simp; omega)) ?_); clear E S a; intro a w E S; try dsimp only [List.set] at S
    refine wpList_nil ?_
    refine zBi ?_
    refine zAf hK ?_; clear hK; clear K
    refine zAb ?_
    refine zp E (zAe E rfl rfl) ?_; clear E a; intro a E
    refine zp E (zBu E rfl rfl rfl (by first | exact zCl (y := 1) (by omega) | exact w_in (by omega) | exact zBt (by omega) | exact rfl)) ?_; clear E a; intro a E
    refine zp E (zAd E rfl rfl) ?_; clear E a; intro a E
    refine wpList_nil ?_
    refine zBq ?_
    have hps : prpS x6.2 (i + 1) = ((prpS x6.2 i).1 ++ [⟨y.1, z.1⟩], z.2) := by rw [prpS, ← hy, ← hz]
    have hB2' : Buf C57 70 2 (.slice ad2 (i + 1) c2) (i + 1) ((prpS x6.2 (i + 1)).1.flatMap Prp.lay) := by
      rw [hps, List.flatMap_append]; exact hB57
    exact ⟨_, by omega, i + 1, B2, C57, _, rfl, by omega, by rw [hps]; exact hB2, hB2', S.only (Bs := [B2, [(b3, _)], C57, [(b2, _)]]) (zAk (by repeat (first | exact pk1 | apply zAc)) (zAk (by repeat (first | exact pk1 | apply zAc)) (zAk (by repeat (first | exact pk1 | apply zAc)) (zAk (by repeat (first | exact pk1 | apply zAc)) (zAr _))))), E.keep (zAa rfl (zAa rfl (zAa rfl (zAa rfl (zAa rfl zAm)))))⟩
  · replace hb := Nrm.nrm hb
    refine wp_exit ?_
    refine zBc ?_; clear hK; clear K
    refine zBc ?_
    refine zCj ?_
    refine zAf hK ?_; clear hK; clear K
    refine wp_seq_k ?_; intro K hK
    obtain ⟨adv, cv, rfl⟩ := hB.slice
    refine zAb ?_
    refine zp E (zBp (vs := [_, _, _, _, _, _, _, _, _, _, _, _, _]) E rfl rfl rfl (S.get (by repeat (first | exact pk1 | apply zAc))) rfl rfl) ?_; clear E a; intro a E
    refine zAn rfl (zAz E S rfl rfl rfl rfl (by simp [Value.oneCell']) rfl (by repeat (first | exact pk1 | apply zAc)) (by simp) ?_); clear E S a; intro a w E S; simp only [List.take_succ_cons, List.take_zero, List.drop_succ_cons, List.drop_zero, List.cons_append, List.nil_append, List.append_nil, List.length_cons, List.length_nil, Nat.zero_add, Nat.add_zero] at S
    refine wpList_nil ?_
    refine zAf hK ?_; clear hK; clear K
    refine wp_ret ?_
    refine zGs E rfl rfl (S.get (by repeat (first | exact pk1 | apply zAc))) rfl ?_
    obtain rfl : i = x6.1 := by omega
    rw [htk]
    subst hr1
    exact ⟨_, rfl, A', D1, .slice adv x6.1 cv, nilv, nilv, rfl, hA', ⟨D1, [], [], by simp, by show Buf D1 _ 2 _ (prpS x6.2 x6.1).1.length _; rw [prpS_len]; exact hB, Buf.nil _ _, Buf.nil _ _⟩, (S.only (Bs := [A', D1]) (zAk (by repeat (first | exact pk1 | apply zAc)) (zAk (by repeat (first | exact pk1 | apply zAc)) (zAr _)))).tr⟩
set_option maxHeartbeats 1000000 in
theorem utold_ret (k : Int) (hk : inK k) (p : Nat) (s : Rdr) (A : zAy) (hA : RdC 118 p s A) (w0 : World) (H : Hp w0 [A]) :
    Ret Tryz.prog 83 #[.int .i64 k, ptr p] w0 fun u w' => ∃ A' D pv kv dv, u = .agg ((zFf k s).1.cells pv kv dv).toArray ∧ RdC 118 p (zFf k s).2 A' ∧ zLa D (zFf k s).1 pv kv dv ∧ Trs w0 w' [A] [A', D] := by
  have S := St.begin H
  refine zCr 70 Tryz.func83 rfl rfl (by decide) ?_; intro a E
  refine wp_seq_k ?_; intro K hK
  refine zAb ?_
  refine zAn rfl (zBs E S rfl rfl (by decide) rfl rfl rfl ?_); clear E S a; intro a w b4 E S
  refine wpList_nil ?_
  refine zAf hK ?_; clear hK; clear K
  refine wp_seq_k ?_; intro K hK
  refine zAb ?_
  refine zp E (zAe E rfl rfl) ?_; clear E a; intro a E
  refine zp E (zCh (cells := [_, _, _, _, _, _, _, _, _, _, _, _, _]) E rfl rfl rfl) ?_; clear E a; intro a E
  refine zAn rfl (zBs E S rfl rfl (by decide) rfl rfl rfl ?_); clear E S a; intro a w b5 E S
  refine zAn rfl (zAz E S rfl rfl rfl rfl (by simp [Value.oneCell']) rfl (by repeat (first | exact pk1 | apply zAc)) (by simp) ?_); clear E S a; intro a w E S; simp only [List.take_succ_cons, List.take_zero, List.drop_succ_cons, List.drop_zero, List.cons_append, List.nil_append, List.append_nil, List.length_cons, List.length_nil, Nat.zero_add, Nat.add_zero] at S
  refine wpList_nil ?_
  refine zAf hK ?_; clear hK; clear K
  iterate 2 (refine wp_seq_k ?_; intro K hK)
  refine zAb ?_
  refine zp E (zAe E rfl rfl) ?_; clear E a; intro a E
  refine wpList_nil ?_
  refine zAf hK ?_; clear hK; clear K
  refine wp_block ?_
  refine wp_seq_k ?_; intro K hK
  refine zAb ?_
  refine zp E (by first | exact zCe E rfl rfl rfl | exact zAt E rfl rfl rfl rfl | exact zBd E rfl rfl rfl rfl | exact zAw E rfl rfl rfl) ?_; clear E a; intro a E
  refine zp E (zAd E rfl rfl) ?_; clear E a; intro a E
  refine wpList_nil ?_
  refine zAf hK ?_; clear hK; clear K
  refine zBf E rfl (fun hb => ?_) (fun hb => ?_)
  · replace hb := Nrm.nrm hb
    have hk1 : k = 1 := hb; have hn : ((s.text 24).2.num 2).1 < 65536 := zDk _ 2
    refine wp_seq_k ?_; intro K hK
    refine zAb ?_
    refine zp E (zAe E rfl rfl) ?_; clear E a; intro a E
    refine zAp E rfl rfl (by decide) rfl Tryz.func106 rfl (by kernel_rfl) rfl (zHt p s A _ hA (S.hp.sel (zAk (by repeat (first | exact pk1 | apply zAc)) (zAr _))) 24) ?_
    rintro v23 w ⟨A1, rfl, hA1, hT⟩; clear E a; intro a E
    have S := S.call1 (zAk (by repeat (first | exact pk1 | apply zAc)) (zAr _)) hT
    refine zp E (by first | exact zAg (q := 1) E rfl rfl rfl | exact zAh (q := 1) E rfl rfl rfl) ?_; clear E a; intro a E
    refine zAn rfl (zBo E S rfl rfl rfl rfl rfl rfl (by repeat (first | exact pk1 | apply zAc)) (by first | exact Nat.le_of_ble_eq_true rfl | (simp; done) | (simp; omega)) ?_); clear E S a; intro a w E S; try dsimp only [List.set] at S
    refine wpList_nil ?_
    refine zAf hK ?_; clear hK; clear K
    refine wp_seq_k ?_; intro K hK
    refine zAb ?_
    refine zp E (zAe E rfl rfl) ?_; clear E a; intro a E
    refine zAp E rfl rfl (by decide) rfl Tryz.func107 rfl (by kernel_rfl) rfl (zEs p _ A1 _ hA1 (S.hp.sel (zAk (by repeat (first | exact pk1 | apply zAc)) (zAr _))) 2) ?_
    rintro v26 w ⟨A2, rfl, hA2, hT⟩; clear E a; intro a E
    have S := S.call1 (zAk (by repeat (first | exact pk1 | apply zAc)) (zAr _)) hT
    refine zp E (zAd E rfl rfl) ?_; clear E a; intro a E
    refine wpList_nil ?_
    refine zAf hK ?_; clear hK; clear K
    refine zAb ?_
    refine zp E (zAe E rfl rfl) ?_; clear E a; intro a E
    refine zp E (by first | exact zBe E rfl rfl rfl rfl (by first | exact wu8 _ | exact zDy (by omega) | exact zDd (by omega) | exact w_in (by omega) | exact zBt (by omega) | exact rfl) | exact zCa E rfl rfl rfl rfl rfl (by assumption) (S.stab.at (by simp))) ?_; clear E a; intro a E
    refine zp E (by first | exact zAg (q := 10) E rfl rfl rfl | exact zAh (q := 10) E rfl rfl rfl) ?_; clear E a; intro a E
    refine zAn rfl (zBo E S rfl rfl rfl rfl rfl rfl (by repeat (first | exact pk1 | apply zAc)) (by first | exact Nat.le_of_ble_eq_true rfl | (simp; done) | (simp; omega)) ?_); clear E S a; intro a w E S; try dsimp only [List.set] at S
    refine wpList_nil ?_
    refine zBi ?_
    refine zAf hK ?_; clear hK; clear K
    refine wp_seq_k ?_; intro K hK
    refine zAb ?_
    refine zp E (zBp (vs := [_, _, _, _, _, _, _, _, _, _, _, _, _]) E rfl rfl rfl (S.get (by repeat (first | exact pk1 | apply zAc))) rfl rfl) ?_; clear E a; intro a E
    refine zAn rfl (zAz E S rfl rfl rfl rfl (by simp [Value.oneCell']) rfl (by repeat (first | exact pk1 | apply zAc)) (by simp) ?_); clear E S a; intro a w E S; simp only [List.take_succ_cons, List.take_zero, List.drop_succ_cons, List.drop_zero, List.cons_append, List.nil_append, List.append_nil, List.length_cons, List.length_nil, Nat.zero_add, Nat.add_zero] at S
    refine wpList_nil ?_
    refine zAf hK ?_; clear hK; clear K
    refine wp_ret ?_
    refine zGs E rfl rfl (S.get (by repeat (first | exact pk1 | apply zAc))) rfl ?_
    subst hk1
    exact ⟨_, rfl, A2, [], nilv, nilv, nilv, rfl, hA2, ⟨[], [], [], rfl, Buf.nil _ _, Buf.nil _ _, Buf.nil _ _⟩, (S.only (Bs := [A2]) (zAk (by repeat (first | exact pk1 | apply zAc)) (zAr _))).addNil.perm2.tr⟩
  · replace hb := Nrm.nrm hb
    refine wp_seq_k ?_; intro K hK
    refine zAb ?_
    refine zp E (by first | exact zCe E rfl rfl rfl | exact zAt E rfl rfl rfl rfl | exact zBd E rfl rfl rfl rfl | exact zAw E rfl rfl rfl) ?_; clear E a; intro a E
    refine zp E (zAd E rfl rfl) ?_; clear E a; intro a E
    refine wpList_nil ?_
    refine zAf hK ?_; clear hK; clear K
    refine zBf E rfl (fun hb => ?_) (fun hb => ?_)
    · replace hb := Nrm.nrm hb
      have hk2 : k = 2 := hb
      refine wp_seq_k ?_; intro K hK
      refine zAb ?_
      refine zp E (zAe E rfl rfl) ?_; clear E a; intro a E
      refine zAp E rfl rfl (by decide) rfl Tryz.func108 rfl (by kernel_rfl) rfl (ubegun_ret p s A hA _ (S.hp.sel (zAk (by repeat (first | exact pk1 | apply zAc)) (zAr _)))) ?_
      rintro v33 w ⟨A1, D, pv, kv, dv, he, hA1, hD, hT⟩; clear E a; intro a E
      obtain ⟨rr, rd, htk⟩ : ∃ rr rd, zIk 2 s = (rr, rd) := ⟨_, _, rfl⟩; rw [htk] at he hA1 hD; simp only [Rec.cells] at he hA1 hD; subst he; have S := S.call2 (zAk (by repeat (first | exact pk1 | apply zAc)) (zAr _)) hT; obtain ⟨q1, k1, rfl⟩ := hD.rd.pr.slice; obtain ⟨q2, k2, rfl⟩ := hD.rd.kr.slice; obtain ⟨q3, k3, rfl⟩ := hD.rd.dr.slice
      refine zAn rfl (zAz E S rfl rfl rfl rfl (by simp [Value.oneCell']) rfl (by repeat (first | exact pk1 | apply zAc)) (by simp) ?_); clear E S a; intro a w E S; simp only [List.take_succ_cons, List.take_zero, List.drop_succ_cons, List.drop_zero, List.cons_append, List.nil_append, List.append_nil, List.length_cons, List.length_nil, Nat.zero_add, Nat.add_zero] at S
      refine wpList_nil ?_
      refine zAf hK ?_; clear hK; clear K
      refine wp_ret ?_
      refine zCm ?_
      refine zAv ?_; clear hK; clear K
      refine zGs E rfl rfl (S.get (by repeat (first | exact pk1 | apply zAc))) rfl ?_
      subst hk2
      have e2 : zFf 2 s = (rr, rd) := htk
      rw [e2]
      exact ⟨_, rfl, A1, D, _, _, _, rfl, hA1, hD, (S.only (Bs := [A1, D]) (zAk (by repeat (first | exact pk1 | apply zAc)) (zAk (by repeat (first | exact pk1 | apply zAc)) (zAr _)))).tr⟩
    · replace hb := Nrm.nrm hb
      refine wp_seq_k ?_; intro K hK
      refine zAb ?_
      refine zp E (by first | exact zCe E rfl rfl rfl | exact zAt E rfl rfl rfl rfl | exact zBd E rfl rfl rfl rfl | exact zAw E rfl rfl rfl) ?_; clear E a; intro a E
      refine zp E (zAd E rfl rfl) ?_; clear E a; intro a E
      refine wpList_nil ?_
      refine zAf hK ?_; clear hK; clear K
      refine zBf E rfl (fun hb => ?_) (fun hb => ?_)
      · replace hb := Nrm.nrm hb
        have hk3 : k = 3 := hb
        refine zAb ?_
        refine zp E (zAe E rfl rfl) ?_; clear E a; intro a E
        refine zAp E rfl rfl (by decide) rfl Tryz.func109 rfl (by kernel_rfl) rfl (ukeep_ret p s A hA 4 0 (by omega) (by omega) _ (S.hp.sel (zAk (by repeat (first | exact pk1 | apply zAc)) (zAr _)))) ?_
        rintro v37 w ⟨A1, C, hA1, hC, hT⟩; clear E a; intro a E
        have S := S.call2 (zAk (by repeat (first | exact pk1 | apply zAc)) (zAr _)) hT; obtain ⟨ad, c, rfl⟩ := hC.slice
        refine zp E (by first | exact zAg (q := 11) E rfl rfl rfl | exact zAh (q := 11) E rfl rfl rfl) ?_; clear E a; intro a E
        refine zAn rfl (zBo E S rfl rfl rfl rfl rfl rfl (by repeat (first | exact pk1 | apply zAc)) (by first | exact Nat.le_of_ble_eq_true rfl | (simp; done) | (simp; omega)) ?_); clear E S a; intro a w E S; try dsimp only [List.set] at S
        refine wpList_nil ?_
        refine zBi ?_
        refine zAf hK ?_; clear hK; clear K
        refine wp_seq_k ?_; intro K hK
        refine zAb ?_
        refine zp E (zBp (vs := [_, _, _, _, _, _, _, _, _, _, _, _, _]) E rfl rfl rfl (S.get (by repeat (first | exact pk1 | apply zAc))) rfl rfl) ?_; clear E a; intro a E
        refine zAn rfl (zAz E S rfl rfl rfl rfl (by simp [Value.oneCell']) rfl (by repeat (first | exact pk1 | apply zAc)) (by simp) ?_); clear E S a; intro a w E S; simp only [List.take_succ_cons, List.take_zero, List.drop_succ_cons, List.drop_zero, List.cons_append, List.nil_append, List.append_nil, List.length_cons, List.length_nil, Nat.zero_add, Nat.add_zero] at S
        refine wpList_nil ?_
        refine zAf hK ?_; clear hK; clear K
        refine wp_ret ?_
        refine zGs E rfl rfl (S.get (by repeat (first | exact pk1 | apply zAc))) rfl ?_
        subst hk3
        exact ⟨_, rfl, A1, C, nilv, _, nilv, rfl, hA1, ⟨[], C, [], by simp, Buf.nil _ _, hC, Buf.nil _ _⟩, (S.only (Bs := [A1, C]) (zAk (by repeat (first | exact pk1 | apply zAc)) (zAk (by repeat (first | exact pk1 | apply zAc)) (zAr _)))).tr⟩
      · replace hb := Nrm.nrm hb
        refine wp_seq_k ?_; intro K hK
        refine zAb ?_
        refine zp E (by first | exact zCe E rfl rfl rfl | exact zAt E rfl rfl rfl rfl | exact zBd E rfl rfl rfl rfl | exact zAw E rfl rfl rfl) ?_; clear E a; intro a E
        refine zp E (zAd E rfl rfl) ?_; clear E a; intro a E
        refine wpList_nil ?_
        refine zAf hK ?_; clear hK; clear K
        refine zBf E rfl (fun hb => ?_) (fun hb => ?_)
        · replace hb := Nrm.nrm hb
          have hk4 : k = 4 := hb; have hn : (s.num 4).1 < 4294967296 := zDk _ 4
          refine wp_seq_k ?_; intro K hK
          refine zAb ?_
          refine zp E (zAe E rfl rfl) ?_; clear E a; intro a E
          refine zAp E rfl rfl (by decide) rfl Tryz.func107 rfl (by kernel_rfl) rfl (zEs p s A _ hA (S.hp.sel (zAk (by repeat (first | exact pk1 | apply zAc)) (zAr _))) 4) ?_
          rintro v42 w ⟨A1, rfl, hA1, hT⟩; clear E a; intro a E
          have S := S.call1 (zAk (by repeat (first | exact pk1 | apply zAc)) (zAr _)) hT
          refine zp E (zAd E rfl rfl) ?_; clear E a; intro a E
          refine wpList_nil ?_
          refine zAf hK ?_; clear hK; clear K
          refine wp_seq_k ?_; intro K hK
          refine zAb ?_
          refine zp E (zAe E rfl rfl) ?_; clear E a; intro a E
          refine zp E (by first | exact zBe E rfl rfl rfl rfl (by first | exact wu8 _ | exact zDy (by omega) | exact zDd (by omega) | exact w_in (by omega) | exact zBt (by omega) | exact rfl) | exact zCa E rfl rfl rfl rfl rfl (by assumption) (S.stab.at (by simp))) ?_; clear E a; intro a E
          refine zp E (by first | exact zAg (q := 8) E rfl rfl rfl | exact zAh (q := 8) E rfl rfl rfl) ?_; clear E a; intro a E
          refine zAn rfl (zBo E S rfl rfl rfl rfl rfl rfl (by repeat (first | exact pk1 | apply zAc)) (by first | exact Nat.le_of_ble_eq_true rfl | (simp; done) | (simp; omega)) ?_); clear E S a; intro a w E S; try dsimp only [List.set] at S
          refine wpList_nil ?_
          refine zAf hK ?_; clear hK; clear K
          refine zAb ?_
          refine zp E (zAe E rfl rfl) ?_; clear E a; intro a E
          refine zAp E rfl rfl (by decide) rfl Tryz.func109 rfl (by kernel_rfl) rfl (ukeep_ret p _ A1 hA1 2 1 (by omega) (by omega) _ (S.hp.sel (zAk (by repeat (first | exact pk1 | apply zAc)) (zAr _)))) ?_
          rintro v47 w ⟨A2, C, hA2, hC, hT⟩; clear E a; intro a E
          have S := S.call2 (zAk (by repeat (first | exact pk1 | apply zAc)) (zAr _)) hT; obtain ⟨ad, c, rfl⟩ := hC.slice
          refine zp E (by first | exact zAg (q := 11) E rfl rfl rfl | exact zAh (q := 11) E rfl rfl rfl) ?_; clear E a; intro a E
          refine zAn rfl (zBo E S rfl rfl rfl rfl rfl rfl (by repeat (first | exact pk1 | apply zAc)) (by first | exact Nat.le_of_ble_eq_true rfl | (simp; done) | (simp; omega)) ?_); clear E S a; intro a w E S; try dsimp only [List.set] at S
          refine wpList_nil ?_
          refine zBi ?_
          refine zAf hK ?_; clear hK; clear K
          refine wp_seq_k ?_; intro K hK
          replace E := E.keep (e' := [(4, _), (5, _)]) (zAa rfl (zAa rfl (zAm)))
          refine zAb ?_
          refine zp E (zBp (vs := [_, _, _, _, _, _, _, _, _, _, _, _, _]) E rfl rfl rfl (S.get (by repeat (first | exact pk1 | apply zAc))) rfl rfl) ?_; clear E a; intro a E
          refine zAn rfl (zAz E S rfl rfl rfl rfl (by simp [Value.oneCell']) rfl (by repeat (first | exact pk1 | apply zAc)) (by simp) ?_); clear E S a; intro a w E S; simp only [List.take_succ_cons, List.take_zero, List.drop_succ_cons, List.drop_zero, List.cons_append, List.nil_append, List.append_nil, List.length_cons, List.length_nil, Nat.zero_add, Nat.add_zero] at S
          refine wpList_nil ?_
          refine zAf hK ?_; clear hK; clear K
          refine wp_ret ?_
          refine zGs E rfl rfl (S.get (by repeat (first | exact pk1 | apply zAc))) rfl ?_
          subst hk4
          exact ⟨_, rfl, A2, C, nilv, _, nilv, rfl, hA2, ⟨[], C, [], by simp, Buf.nil _ _, hC, Buf.nil _ _⟩, (S.only (Bs := [A2, C]) (zAk (by repeat (first | exact pk1 | apply zAc)) (zAk (by repeat (first | exact pk1 | apply zAc)) (zAr _)))).tr⟩
        · replace hb := Nrm.nrm hb
          refine wp_seq_k ?_; intro K hK
          refine zAb ?_
          refine zp E (by first | exact zCe E rfl rfl rfl | exact zAt E rfl rfl rfl rfl | exact zBd E rfl rfl rfl rfl | exact zAw E rfl rfl rfl) ?_; clear E a; intro a E
          refine zp E (zAd E rfl rfl) ?_; clear E a; intro a E
          refine wpList_nil ?_
          refine zAf hK ?_; clear hK; clear K
          refine zBf E rfl (fun hb => ?_) (fun hb => ?_)
          · replace hb := Nrm.nrm hb
            have hk5 : k = 5 := hb; have hn : (s.num 4).1 < 4294967296 := zDk _ 4; have hn2 : ((s.num 4).2.num 2).1 < 65536 := zDk _ 2; have hn3 : (((s.num 4).2.num 2).2.num 2).1 < 65536 := zDk _ 2
            refine wp_seq_k ?_; intro K hK
            refine zAb ?_
            refine zp E (zAe E rfl rfl) ?_; clear E a; intro a E
            refine zAp E rfl rfl (by decide) rfl Tryz.func107 rfl (by kernel_rfl) rfl (zEs p s A _ hA (S.hp.sel (zAk (by repeat (first | exact pk1 | apply zAc)) (zAr _))) 4) ?_
            rintro v52 w ⟨A1, rfl, hA1, hT⟩; clear E a; intro a E
            have S := S.call1 (zAk (by repeat (first | exact pk1 | apply zAc)) (zAr _)) hT
            refine zp E (zAd E rfl rfl) ?_; clear E a; intro a E
            refine wpList_nil ?_
            refine zAf hK ?_; clear hK; clear K
            refine wp_seq_k ?_; intro K hK
            refine zAb ?_
            refine zp E (zAe E rfl rfl) ?_; clear E a; intro a E
            refine zAp E rfl rfl (by decide) rfl Tryz.func107 rfl (by kernel_rfl) rfl (zEs p _ A1 _ hA1 (S.hp.sel (zAk (by repeat (first | exact pk1 | apply zAc)) (zAr _))) 2) ?_
            rintro v54 w ⟨A2, rfl, hA2, hT⟩; clear E a; intro a E
            have S := S.call1 (zAk (by repeat (first | exact pk1 | apply zAc)) (zAr _)) hT
            refine zp E (zAd E rfl rfl) ?_; clear E a; intro a E
            refine wpList_nil ?_
            refine zAf hK ?_; clear hK; clear K
            refine wp_seq_k ?_; intro K hK
            refine zAb ?_
            refine zp E (zAe E rfl rfl) ?_; clear E a; intro a E
            refine zAp E rfl rfl (by decide) rfl Tryz.func107 rfl (by kernel_rfl) rfl (zEs p _ A2 _ hA2 (S.hp.sel (zAk (by repeat (first | exact pk1 | apply zAc)) (zAr _))) 2) ?_
            rintro v56 w ⟨A3, rfl, hA3, hT⟩; clear E a; intro a E
            have S := S.call1 (zAk (by repeat (first | exact pk1 | apply zAc)) (zAr _)) hT
            refine zp E (zAd E rfl rfl) ?_; clear E a; intro a E
            refine wpList_nil ?_
            refine zAf hK ?_; clear hK; clear K
            refine wp_seq_k ?_; intro K hK
            replace E := E.keep (e' := [(1, _), (4, _), (5, _), (8, _), (9, _), (10, _)]) (zAa rfl (zAa rfl (zAa rfl (zAa rfl (zAa rfl (zAa rfl (zAm)))))))
            refine zAb ?_
            refine zp E (zAe E rfl rfl) ?_; clear E a; intro a E
            refine zp E (by first | exact zBe E rfl rfl rfl rfl (by first | exact wu8 _ | exact zDy (by omega) | exact zDd (by omega) | exact w_in (by omega) | exact zBt (by omega) | exact rfl) | exact zCa E rfl rfl rfl rfl rfl (by assumption) (S.stab.at (by simp))) ?_; clear E a; intro a E
            refine zp E (zAe E rfl rfl) ?_; clear E a; intro a E
            refine zp E (by first | exact zBe E rfl rfl rfl rfl (by first | exact wu8 _ | exact zDy (by omega) | exact zDd (by omega) | exact w_in (by omega) | exact zBt (by omega) | exact rfl) | exact zCa E rfl rfl rfl rfl rfl (by assumption) (S.stab.at (by simp))) ?_; clear E a; intro a E
            refine zp E (zDs E rfl rfl rfl (w_in (by omega))) ?_; clear E a; intro a E
            refine zp E (by first | exact zAg (q := 8) E rfl rfl rfl | exact zAh (q := 8) E rfl rfl rfl) ?_; clear E a; intro a E
            refine zAn rfl (zBo E S rfl rfl rfl rfl rfl rfl (by repeat (first | exact pk1 | apply zAc)) (by first | exact Nat.le_of_ble_eq_true rfl | (simp; done) | (simp; omega)) ?_); clear E S a; intro a w E S; try dsimp only [List.set] at S
            refine zp E (by first | exact zAg (q := 9) E rfl rfl rfl | exact zAh (q := 9) E rfl rfl rfl) ?_; clear E a; intro a E
            refine zAn rfl (zBo E S rfl rfl rfl rfl rfl rfl (by repeat (first | exact pk1 | apply zAc)) (by first | exact Nat.le_of_ble_eq_true rfl | (simp; done) | (simp; omega)) ?_); clear E S a; intro a w E S; try dsimp only [List.set] at S
            refine wpList_nil ?_
            refine zAf hK ?_; clear hK; clear K
            refine zAb ?_
            iterate 2 (refine zp E (zAe E rfl rfl) ?_; clear E a; intro a E)
            refine zp E (by first | exact zBe E rfl rfl rfl rfl (by first | exact wu8 _ | exact zDy (by omega) | exact zDd (by omega) | exact w_in (by omega) | exact zBt (by omega) | exact rfl) | exact zCa E rfl rfl rfl rfl rfl (by assumption) (S.stab.at (by simp))) ?_; clear E a; intro a E
            refine zAp E rfl rfl (by decide) rfl Tryz.func110 rfl (by kernel_rfl) rfl (ubytes_ret p _ A3 _ hA3 (S.hp.sel (zAk (by repeat (first | exact pk1 | apply zAc)) (zAr _))) (((s.num 4).2.num 2).2.num 2).1 (by omega)) ?_
            rintro v67 w ⟨A4, C, hA4, hT, hC⟩; clear E a; intro a E
            have S := S.call2 (zAk (by repeat (first | exact pk1 | apply zAc)) (zAr _)) hT; obtain ⟨ad, c, rfl⟩ := hC.slice
            refine zp E (by first | exact zAg (q := 12) E rfl rfl rfl | exact zAh (q := 12) E rfl rfl rfl) ?_; clear E a; intro a E
            refine zAn rfl (zBo E S rfl rfl rfl rfl rfl rfl (by repeat (first | exact pk1 | apply zAc)) (by first | exact Nat.le_of_ble_eq_true rfl | (simp; done) | (simp; omega)) ?_); clear E S a; intro a w E S; try dsimp only [List.set] at S
            refine wpList_nil ?_
            refine zBi ?_
            refine zAf hK ?_; clear hK; clear K
            refine wp_seq_k ?_; intro K hK
            refine zAb ?_
            refine zp E (zBp (vs := [_, _, _, _, _, _, _, _, _, _, _, _, _]) E rfl rfl rfl (S.get (by repeat (first | exact pk1 | apply zAc))) rfl rfl) ?_; clear E a; intro a E
            refine zAn rfl (zAz E S rfl rfl rfl rfl (by simp [Value.oneCell']) rfl (by repeat (first | exact pk1 | apply zAc)) (by simp) ?_); clear E S a; intro a w E S; simp only [List.take_succ_cons, List.take_zero, List.drop_succ_cons, List.drop_zero, List.cons_append, List.nil_append, List.append_nil, List.length_cons, List.length_nil, Nat.zero_add, Nat.add_zero] at S
            refine wpList_nil ?_
            refine zAf hK ?_; clear hK; clear K
            refine wp_ret ?_
            refine zGs E rfl rfl (S.get (by repeat (first | exact pk1 | apply zAc))) rfl ?_
            subst hk5
            exact ⟨_, rfl, A4, C, nilv, nilv, _, rfl, hA4, ⟨[], [], C, by simp, Buf.nil _ _, Buf.nil _ _, hC⟩, (S.only (Bs := [A4, C]) (zAk (by repeat (first | exact pk1 | apply zAc)) (zAk (by repeat (first | exact pk1 | apply zAc)) (zAr _)))).tr⟩
          · replace hb := Nrm.nrm hb
            have hk6 : k = 6 ∨ k = 7 := (by have := hk.1; have := hk.2; omega); have hn : (s.num 4).1 < 4294967296 := zDk _ 4
            refine wp_seq_k ?_; intro K hK
            refine zAb ?_
            refine zp E (zAe E rfl rfl) ?_; clear E a; intro a E
            refine zAp E rfl rfl (by decide) rfl Tryz.func107 rfl (by kernel_rfl) rfl (zEs p s A _ hA (S.hp.sel (zAk (by repeat (first | exact pk1 | apply zAc)) (zAr _))) 4) ?_
            rintro v16 w ⟨A1, rfl, hA1, hT⟩; clear E a; intro a E
            have S := S.call1 (zAk (by repeat (first | exact pk1 | apply zAc)) (zAr _)) hT
            refine zp E (zAd E rfl rfl) ?_; clear E a; intro a E
            refine wpList_nil ?_
            refine zAf hK ?_; clear hK; clear K
            refine zAb ?_
            refine zp E (zAe E rfl rfl) ?_; clear E a; intro a E
            refine zp E (by first | exact zBe E rfl rfl rfl rfl (by first | exact wu8 _ | exact zDy (by omega) | exact zDd (by omega) | exact w_in (by omega) | exact zBt (by omega) | exact rfl) | exact zCa E rfl rfl rfl rfl rfl (by assumption) (S.stab.at (by simp))) ?_; clear E a; intro a E
            refine zp E (by first | exact zAg (q := 10) E rfl rfl rfl | exact zAh (q := 10) E rfl rfl rfl) ?_; clear E a; intro a E
            refine zAn rfl (zBo E S rfl rfl rfl rfl rfl rfl (by repeat (first | exact pk1 | apply zAc)) (by first | exact Nat.le_of_ble_eq_true rfl | (simp; done) | (simp; omega)) ?_); clear E S a; intro a w E S; try dsimp only [List.set] at S
            refine wpList_nil ?_
            refine zBi ?_
            refine zAf hK ?_; clear hK; clear K
            refine wp_seq_k ?_; intro K hK
            refine zAb ?_
            refine zp E (zBp (vs := [_, _, _, _, _, _, _, _, _, _, _, _, _]) E rfl rfl rfl (S.get (by repeat (first | exact pk1 | apply zAc))) rfl rfl) ?_; clear E a; intro a E
            refine zAn rfl (zAz E S rfl rfl rfl rfl (by simp [Value.oneCell']) rfl (by repeat (first | exact pk1 | apply zAc)) (by simp) ?_); clear E S a; intro a w E S; simp only [List.take_succ_cons, List.take_zero, List.drop_succ_cons, List.drop_zero, List.cons_append, List.nil_append, List.append_nil, List.length_cons, List.length_nil, Nat.zero_add, Nat.add_zero] at S
            refine wpList_nil ?_
            refine zAf hK ?_; clear hK; clear K
            refine wp_ret ?_
            refine zGs E rfl rfl (S.get (by repeat (first | exact pk1 | apply zAc))) rfl ?_
            rcases hk6 with rfl | rfl
            · exact ⟨_, rfl, A1, [], nilv, nilv, nilv, rfl, hA1, ⟨[], [], [], rfl, Buf.nil _ _, Buf.nil _ _, Buf.nil _ _⟩, (S.only (Bs := [A1]) (zAk (by repeat (first | exact pk1 | apply zAc)) (zAr _))).addNil.perm2.tr⟩
            · exact ⟨_, rfl, A1, [], nilv, nilv, nilv, rfl, hA1, ⟨[], [], [], rfl, Buf.nil _ _, Buf.nil _ _, Buf.nil _ _⟩, (S.only (Bs := [A1]) (zAk (by repeat (first | exact pk1 | apply zAc)) (zAr _))).addNil.perm2.tr⟩
end Go.Proofs.YtbogecljkaimdaaGreatDoor
namespace Go.Proofs.YtbogecljkaimdaaGreatDoor
open Go.Sl
set_option maxRecDepth 10000
theorem head_nums {b : List UInt8} (h5 : 5 ≤ b.length) : zDp b = (b[0]).toNat ∧ zCf b = (b[1]).toNat + 256 * ((b[2]).toNat + 256 * ((b[3]).toNat + 256 * (b[4]).toNat)) := by
  match b, h5 with
  | y0 :: y1 :: y2 :: y3 :: y4 :: tl, _ => simp [zDp, zCf, zCs]
theorem frame_take {b : List UInt8} (h : 5 + zCf b ≤ b.length) : zFq (zDp b) (zFg b) = b.take (5 + zCf b) := by
  have hl : (zFg b).length = zCf b := by rw [zFg, List.length_take, List.length_drop]; omega
  have e1 : zBy (zDp b) 1 = b.take 1 := by
    have := form_cut b (q := 0) (k := 1) (by omega)
    rwa [List.drop_zero] at this
  have e2 : zBy (zCf b) 4 = (b.drop 1).take 4 := form_cut b (q := 1) (k := 4) (by omega)
  rw [zFq, hl, headB, Int.toNat_natCast, e1, e2, zFg]
  rw [show b.take (5 + zCf b) = b.take 1 ++ ((b.drop 1).take 4 ++ (b.drop 5).take (zCf b)) by
    rw [show 5 + zCf b = 1 + (4 + zCf b) by omega, List.take_add, List.take_add (l := b.drop 1), List.drop_drop]]
  rw [List.append_assoc]
theorem own_take {b : List UInt8} (h : 5 + zCf b ≤ b.length) (s : Fs) : ownS (zDp b) (zFg b) s = ownD b s := by rw [ownS, frame_take h]; rfl
theorem piece_iff {b : List UInt8} (h : 37 + zCf b ≤ b.length) (s : Fs) : zDc (zDp b) (zFg b) s = b.take (37 + zCf b) ↔ zFa (ownD b s) = (b.drop (5 + zCf b)).take 32 := by
  rw [zDc, own_take (by omega), frame_take (by omega), show 37 + zCf b = 5 + zCf b + 32 by omega, List.take_add (l := b) (i := 5 + zCf b) (j := 32)]
  exact ⟨fun h => List.append_cancel_left h, fun h => by rw [h]⟩
set_option maxHeartbeats 1000000 in
theorem zGh (D : zAy) (ad : Option Addr) (c : Nat) (b : List UInt8) (hD : Rd D 1 (.slice ad b.length c) b.length (byt b)) (hcap : b.length ≤ c) (hbl : b.length ≤ 4000000) (s : Fs) (hok : s.Ok) {As : List zAy} (mD : D ∈ As) (hG0 : Tab As 0 sha0.l) (hG1 : Tab As 1 shaK) (w0 : World) (H : Hp w0 As) :
    Ret Tryz.prog 38 #[.slice ad b.length c, s.agg] w0 (decP (decR b s) As w0) := by
  have S := St.begin H
  refine zCr 115 Tryz.func38 rfl rfl (by decide) ?_; intro a E
  refine wp_seq_k ?_; intro K hK
  refine zAb ?_
  refine zAn rfl (zCt E S rfl rfl (by decide) rfl rfl ?_); clear E S a; intro a w b3 E S
  refine zAn rfl (zBs E S rfl rfl (by decide) rfl rfl rfl ?_); clear E S a; intro a w b4 E S
  refine zp E (zAd E rfl rfl) ?_; clear E a; intro a E
  refine zAn rfl (zBs E S rfl rfl (by decide) rfl rfl rfl ?_); clear E S a; intro a w b6 E S
  refine zp E (zAd E rfl rfl) ?_; clear E a; intro a E
  refine wpList_nil ?_
  refine zAf hK ?_; clear hK; clear K
  iterate 2 (refine wp_seq_k ?_; intro K hK)
  refine zAb ?_
  refine zp E (zAe E rfl rfl) ?_; clear E a; intro a E
  refine zp E (by first | exact zBx E rfl rfl rfl | exact zAx E rfl rfl rfl | exact zAq E rfl rfl rfl) ?_; clear E a; intro a E
  refine zp E (zCn E rfl rfl rfl) ?_; clear E a; intro a E
  refine wpList_nil ?_
  refine zAf hK ?_; clear hK; clear K
  refine zBf E rfl (fun hb => ?_) (fun hb => ?_)
  · replace hb := Nrm.nrm hb
    refine wp_seq_k ?_; intro K hK
    refine zAb ?_
    refine zp E (zCh (cells := [_, _, _, _, _, _, _, _, _, _, _, _, _]) E rfl rfl rfl) ?_; clear E a; intro a E
    refine zp E (zCh (cells := [_, _, _, _]) E rfl rfl rfl) ?_; clear E a; intro a E
    refine zAn rfl (zAz E S rfl rfl rfl rfl (by simp [Value.oneCell']) rfl (by repeat (first | exact pk1 | apply zAc)) (by simp) ?_); clear E S a; intro a w E S; simp only [List.take_succ_cons, List.take_zero, List.drop_succ_cons, List.drop_zero, List.cons_append, List.nil_append, List.append_nil, List.length_cons, List.length_nil, Nat.zero_add, Nat.add_zero] at S
    refine zp E (zAd E rfl rfl) ?_; clear E a; intro a E
    refine zAn rfl (zAz E S rfl rfl rfl rfl (by simp [Value.oneCell']) rfl (by repeat (first | exact pk1 | apply zAc)) (by simp) ?_); clear E S a; intro a w E S; simp only [List.take_succ_cons, List.take_zero, List.drop_succ_cons, List.drop_zero, List.cons_append, List.nil_append, List.append_nil, List.length_cons, List.length_nil, Nat.zero_add, Nat.add_zero] at S
    refine zp E (zAd E rfl rfl) ?_; clear E a; intro a E
    refine wpList_nil ?_
    refine zAf hK ?_; clear hK; clear K
    refine wp_ret ?_
    refine zAv ?_; clear hK; clear K
    refine zEb E rfl rfl rfl rfl rfl (S.get (by repeat (first | exact pk1 | apply zAc))) rfl (S.get (by repeat (first | exact pk1 | apply zAc))) rfl ?_
    exact ⟨_, rfl, zFh (dec_1 (by omega)) ((St.drops0 [_, _, _] S).addNil).tr⟩
  · replace hb := Nrm.nrm hb
    refine wp_skip ?_
    refine zAf hK ?_; clear hK; clear K
    refine wp_seq_k ?_; intro K hK
    have h5 : 5 ≤ b.length := by omega
    obtain ⟨g, off, rfl⟩ := hD.addr (by omega)
    have hh := head_nums h5
    have l1 := (b[1]).toNat_lt
    have l2 := (b[2]).toNat_lt
    have l3 := (b[3]).toNat_lt
    have l4 := (b[4]).toNat_lt
    obtain ⟨x0, hx0⟩ : ∃ x, x = b[0].toNat := ⟨_, rfl⟩
    obtain ⟨x1, hx1⟩ : ∃ x, x = b[1].toNat := ⟨_, rfl⟩
    obtain ⟨x2, hx2⟩ : ∃ x, x = b[2].toNat := ⟨_, rfl⟩
    obtain ⟨x3, hx3⟩ : ∃ x, x = b[3].toNat := ⟨_, rfl⟩
    obtain ⟨x4, hx4⟩ : ∃ x, x = b[4].toNat := ⟨_, rfl⟩
    have c0 : ∀ {w' : World}, Stab [D] w' → w'.cell? ⟨g, off + 0, none⟩ = some (.int .u8 x0) := fun h => by rw [hx0]; exact hD.byte (h.at (by repeat (first | exact mm1 | assumption | apply List.Mem.tail))) (i := 0) (by omega)
    have c1 : ∀ {w' : World}, Stab [D] w' → w'.cell? ⟨g, off + 1, none⟩ = some (.int .u8 x1) := fun h => by rw [hx1]; exact hD.byte (h.at (by repeat (first | exact mm1 | assumption | apply List.Mem.tail))) (i := 1) (by omega)
    have c2 : ∀ {w' : World}, Stab [D] w' → w'.cell? ⟨g, off + 2, none⟩ = some (.int .u8 x2) := fun h => by rw [hx2]; exact hD.byte (h.at (by repeat (first | exact mm1 | assumption | apply List.Mem.tail))) (i := 2) (by omega)
    have c3 : ∀ {w' : World}, Stab [D] w' → w'.cell? ⟨g, off + 3, none⟩ = some (.int .u8 x3) := fun h => by rw [hx3]; exact hD.byte (h.at (by repeat (first | exact mm1 | assumption | apply List.Mem.tail))) (i := 3) (by omega)
    have c4 : ∀ {w' : World}, Stab [D] w' → w'.cell? ⟨g, off + 4, none⟩ = some (.int .u8 x4) := fun h => by rw [hx4]; exact hD.byte (h.at (by repeat (first | exact mm1 | assumption | apply List.Mem.tail))) (i := 4) (by omega)
    have hD1 : ∀ {L : List zAy} {w' : World}, D ∈ L → Stab L w' → Stab [D] w' := fun m h => h.sub (by simp; exact m)
    rw [← hx0, ← hx1, ← hx2, ← hx3, ← hx4] at hh
    rw [← hx1] at l1
    rw [← hx2] at l2
    rw [← hx3] at l3
    rw [← hx4] at l4
    obtain ⟨n, hn⟩ : ∃ n, n = zCf b := ⟨_, rfl⟩
    obtain ⟨k, hk⟩ : ∃ k, k = zDp b := ⟨_, rfl⟩
    have hklt : k < 256 := by rw [hk]; exact kindOf_lt b
    rw [← hn, ← hk] at hh
    obtain ⟨hhk, hhn⟩ := hh
    subst hhk
    refine zBz S (.ofL [(0, 0), (1, 0), (2, 0), (3, 0), (4, 0), (5, 0), (6, 0), (7, 0), (8, 0), (9, 0), (10, 0), (11, 0), (12, 0), (13, 0), (14, 0), (15, 0), (16, 0), (17, 0), (18, 0), (19, 0), (20, 0), (21, 0), (22, 0)]) (by kernel_rfl) (by kernel_rfl) ?_
    clear S; intro w S
    refine zm E rfl (fun w h => zAe E rfl rfl) ?_; clear E a; intro a E
    refine zm E rfl (fun w h => zBl (i := 1) E rfl rfl rfl rfl rfl rfl (by omega)) ?_; clear E a; intro a E
    refine zm E rfl (fun w h => zAj E rfl rfl rfl (c1 (hD1 (by repeat (first | exact mm1 | assumption | apply List.Mem.tail)) h))) ?_; clear E a; intro a E
    refine zm E rfl (fun w h => zBe E rfl rfl rfl rfl (zDy (by omega))) ?_; clear E a; intro a E
    refine zm E rfl (fun w h => zAe E rfl rfl) ?_; clear E a; intro a E
    refine zm E rfl (fun w h => zBl (i := 2) E rfl rfl rfl rfl rfl rfl (by omega)) ?_; clear E a; intro a E
    refine zm E rfl (fun w h => zAj E rfl rfl rfl (c2 (hD1 (by repeat (first | exact mm1 | assumption | apply List.Mem.tail)) h))) ?_; clear E a; intro a E
    refine zm E rfl (fun w h => zBe E rfl rfl rfl rfl (zDy (by omega))) ?_; clear E a; intro a E
    refine zm E rfl (fun w h => zAe E rfl rfl) ?_; clear E a; intro a E
    refine zm E rfl (fun w h => zBl (i := 3) E rfl rfl rfl rfl rfl rfl (by omega)) ?_; clear E a; intro a E
    refine zm E rfl (fun w h => zAj E rfl rfl rfl (c3 (hD1 (by repeat (first | exact mm1 | assumption | apply List.Mem.tail)) h))) ?_; clear E a; intro a E
    refine zm E rfl (fun w h => zBe E rfl rfl rfl rfl (zDy (by omega))) ?_; clear E a; intro a E
    refine zm E rfl (fun w h => zAe E rfl rfl) ?_; clear E a; intro a E
    refine zm E rfl (fun w h => zBl (i := 4) E rfl rfl rfl rfl rfl rfl (by omega)) ?_; clear E a; intro a E
    refine zm E rfl (fun w h => zAj E rfl rfl rfl (c4 (hD1 (by repeat (first | exact mm1 | assumption | apply List.Mem.tail)) h))) ?_; clear E a; intro a E
    refine zm E rfl (fun w h => zBe E rfl rfl rfl rfl (zDy (by omega))) ?_; clear E a; intro a E
    refine zm E rfl (fun w h => zFb E rfl rfl rfl (by first | exact zFp (x := 256) (by omega) | exact zEt (x := 256) (by omega) | exact w_in (by omega) | exact rfl)) ?_; clear E a; intro a E
    refine zm E rfl (fun w h => zBu E rfl rfl rfl (by first | exact wa1 (by omega) | exact w_in (by omega) | exact zBt (by omega) | exact rfl)) ?_; clear E a; intro a E
    refine zm E rfl (fun w h => zFb E rfl rfl rfl (by first | exact zFp (x := 256) (by omega) | exact zEt (x := 256) (by omega) | exact w_in (by omega) | exact rfl)) ?_; clear E a; intro a E
    refine zm E rfl (fun w h => zBu E rfl rfl rfl (by first | exact wa1 (by omega) | exact w_in (by omega) | exact zBt (by omega) | exact rfl)) ?_; clear E a; intro a E
    refine zm E rfl (fun w h => zFb E rfl rfl rfl (by first | exact zFp (x := 256) (by omega) | exact zEt (x := 256) (by omega) | exact w_in (by omega) | exact rfl)) ?_; clear E a; intro a E
    refine zm E rfl (fun w h => zBu E rfl rfl rfl (by first | exact wa1 (by omega) | exact w_in (by omega) | exact zBt (by omega) | exact rfl)) ?_; clear E a; intro a E
    rw [← hhn] at E
    refine zm E rfl (fun w h => zAd E rfl rfl) ?_; clear E a; intro a E
    refine zBw ?_
    refine zAf hK ?_; clear hK; clear K
    iterate 2 (refine wp_seq_k ?_; intro K hK)
    replace E := E.keep (e' := [(0, _), (3, _), (4, _), (5, _), (6, _), (7, _), (8, _)]) (zAa rfl (zAa rfl (zAa rfl (zAa rfl (zAa rfl (zAa rfl (zAa rfl (zAm))))))))
    refine zDw (fun (a : Act) (w' : World) => ∃ z, (z = true ↔ (¬ inK k ∨ 2048 < n)) ∧ St w0 As w' ([(b6, cel [.int .u64 0, .int .u64 0, .int .u64 0, .int .u64 0] 29)] :: [(b4, cel [.int .i64 0, str [], .int .i64 0, .int .i64 0, .int .i64 0, .int .i64 0, str [], nilv, .int .i64 0, .int .i64 0, .int .i64 0, nilv, nilv] 26)] :: [(b3, cel (fsC s) 29)] :: As) ∧ Fr a 115 [(0, .slice (some ⟨g, off, none⟩) b.length c), (3, ptr b3), (4, ptr b4), (5, .int .i64 0), (6, ptr b6), (7, .int .i64 0), (8, .int .i64 n), (55, .bool z)]) ?_ ?_
    · skip
      refine zAb ?_
      refine zp E (zAe E rfl rfl) ?_; clear E a; intro a E
      refine zp E (zBl (i := 0) E rfl rfl rfl rfl rfl rfl (by omega)) ?_; clear E a; intro a E
      refine zp E (zAj E rfl rfl rfl (c0 (hD1 (by repeat (first | exact mm1 | assumption | apply List.Mem.tail)) S.stab))) ?_; clear E a; intro a E
      refine zp E (zCn E rfl rfl rfl) ?_; clear E a; intro a E
      refine zp E (zAe E rfl rfl) ?_; clear E a; intro a E
      refine zAs E (t := 46) rfl (fun hb46 => ?_) (fun hb46 => ?_)
      · have hb46n := hb46; replace hb46n := Nrm.nrm hb46n
        iterate 4 (refine zn E hb46 ?_; clear E a; intro a E)
        refine zp E (zAl E rfl rfl hb46 rfl) ?_; clear E a; intro a E
        refine zp E (zAe E rfl rfl) ?_; clear E a; intro a E
        iterate 2 (refine zn E rfl ?_; clear E a; intro a E)
        refine zp E (zAl E rfl rfl rfl rfl) ?_; clear E a; intro a E
        refine wpList_nil ?_
        refine zAu ?_
        refine ⟨_, ?_, S, E.keep (zAa rfl (zAa rfl (zAa rfl (zAa rfl (zAa rfl (zAa rfl (zAa rfl (zAa rfl zAm))))))))⟩
        unfold inK
        exact ⟨fun q => by first | omega | (simp only [decide_eq_true_eq] at q; omega) | (simp at q; omega) | exact Bool.noConfusion q, fun q => by first | rfl | (simp only [decide_eq_true_eq]; omega) | (exfalso; omega) | (simp; omega)⟩
      · have hb46n := hb46; replace hb46n := Nrm.nrm hb46n
        refine zy E hb46 (zAe E rfl rfl) ?_; clear E a; intro a E
        refine zy E hb46 (zBl (i := 0) E rfl rfl rfl rfl rfl rfl (by omega)) ?_; clear E a; intro a E
        refine zy E hb46 (zAj E rfl rfl rfl (c0 (hD1 (by repeat (first | exact mm1 | assumption | apply List.Mem.tail)) S.stab))) ?_; clear E a; intro a E
        refine zy E hb46 (zDm E rfl rfl rfl) ?_; clear E a; intro a E
        refine zp E (zAi E rfl rfl hb46 rfl) ?_; clear E a; intro a E
        refine zp E (zAe E rfl rfl) ?_; clear E a; intro a E
        refine zAs E (t := 52) rfl (fun hb52 => ?_) (fun hb52 => ?_)
        · have hb52n := hb52; replace hb52n := Nrm.nrm hb52n
          iterate 2 (refine zn E hb52 ?_; clear E a; intro a E)
          refine zp E (zAl E rfl rfl hb52 rfl) ?_; clear E a; intro a E
          refine wpList_nil ?_
          refine zAu ?_
          refine ⟨_, ?_, S, E.keep (zAa rfl (zAa rfl (zAa rfl (zAa rfl (zAa rfl (zAa rfl (zAa rfl (zAa rfl zAm))))))))⟩
          unfold inK
          exact ⟨fun q => by first | omega | (simp only [decide_eq_true_eq] at q; omega) | (simp at q; omega) | exact Bool.noConfusion q, fun q => by first | rfl | (simp only [decide_eq_true_eq]; omega) | (exfalso; omega) | (simp; omega)⟩
        · have hb52n := hb52; replace hb52n := Nrm.nrm hb52n
          refine zy E hb52 (zAe E rfl rfl) ?_; clear E a; intro a E
          refine zy E hb52 (zDm E rfl rfl rfl) ?_; clear E a; intro a E
          refine zp E (zAi E rfl rfl hb52 rfl) ?_; clear E a; intro a E
          refine wpList_nil ?_
          refine zAu ?_
          refine ⟨_, ?_, S, E.keep (zAa rfl (zAa rfl (zAa rfl (zAa rfl (zAa rfl (zAa rfl (zAa rfl (zAa rfl zAm))))))))⟩
          unfold inK
          exact ⟨fun q => by first | omega | (simp only [decide_eq_true_eq] at q; omega) | (simp at q; omega) | exact Bool.noConfusion q, fun q => by first | rfl | (simp only [decide_eq_true_eq]; omega) | (exfalso; omega) | (simp; omega)⟩
    · clear E S a; intro a w J; obtain ⟨z, hz, S, E⟩ := J
      refine zAf hK ?_; clear hK; clear K
      refine zBf E rfl (fun hb => ?_) (fun hb => ?_)
      · replace hb := Nrm.nrm hb
        have hbad := hz.1 hb
        refine wp_seq_k ?_; intro K hK
        refine zAb ?_
        refine zp E (zCh (cells := [_, _, _, _, _, _, _, _, _, _, _, _, _]) E rfl rfl rfl) ?_; clear E a; intro a E
        refine zp E (zCh (cells := [_, _, _, _]) E rfl rfl rfl) ?_; clear E a; intro a E
        refine zAn rfl (zAz E S rfl rfl rfl rfl (by simp [Value.oneCell']) rfl (by repeat (first | exact pk1 | apply zAc)) (by simp) ?_); clear E S a; intro a w E S; simp only [List.take_succ_cons, List.take_zero, List.drop_succ_cons, List.drop_zero, List.cons_append, List.nil_append, List.append_nil, List.length_cons, List.length_nil, Nat.zero_add, Nat.add_zero] at S
        refine zp E (zAd E rfl rfl) ?_; clear E a; intro a E
        refine zAn rfl (zAz E S rfl rfl rfl rfl (by simp [Value.oneCell']) rfl (by repeat (first | exact pk1 | apply zAc)) (by simp) ?_); clear E S a; intro a w E S; simp only [List.take_succ_cons, List.take_zero, List.drop_succ_cons, List.drop_zero, List.cons_append, List.nil_append, List.append_nil, List.length_cons, List.length_nil, Nat.zero_add, Nat.add_zero] at S
        refine zp E (zAd E rfl rfl) ?_; clear E a; intro a E
        refine wpList_nil ?_
        refine zAf hK ?_; clear hK; clear K
        refine wp_ret ?_
        refine zAv ?_; clear hK; clear K
        refine zEb E rfl rfl rfl rfl rfl (S.get (by repeat (first | exact pk1 | apply zAc))) rfl (S.get (by repeat (first | exact pk1 | apply zAc))) rfl ?_
        exact ⟨_, rfl, zFh (dec_2 h5 (by rw [← hk, ← hn]; exact hbad)) ((St.drops0 [_, _, _] S).addNil).tr⟩
      · replace hb := Nrm.nrm hb
        have hgood : ¬ (¬ inK k ∨ 2048 < n) := fun h => by rw [hz.2 h] at hb; cases hb
        refine wp_skip ?_
        refine zAf hK ?_; clear hK; clear K
        iterate 2 (refine wp_seq_k ?_; intro K hK)
        have hin : inK (k : Int) := Classical.byContradiction fun q => hgood (.inl q)
        have hs2 : zCf b ≤ 2048 := by rw [← hn]; exact Nat.le_of_not_lt fun q => hgood (.inr q)
        have hkb : inK (zDp b) := by rw [← hk]; exact hin
        refine zAb ?_
        refine zp E (zAe E rfl rfl) ?_; clear E a; intro a E
        refine zp E (by first | exact zBx E rfl rfl rfl | exact zAx E rfl rfl rfl | exact zAq E rfl rfl rfl) ?_; clear E a; intro a E
        refine zp E (zAe E rfl rfl) ?_; clear E a; intro a E
        refine zp E (zBu E rfl rfl rfl (by first | exact zIi (x := 37) (by omega) | exact w_in (by omega) | exact zBt (by omega) | exact rfl)) ?_; clear E a; intro a E
        refine zp E (zCn E rfl rfl rfl) ?_; clear E a; intro a E
        refine wpList_nil ?_
        refine zAf hK ?_; clear hK; clear K
        refine zBf E rfl (fun hb => ?_) (fun hb => ?_)
        · replace hb := Nrm.nrm hb
          refine wp_seq_k ?_; intro K hK
          refine zAb ?_
          refine zp E (zCh (cells := [_, _, _, _, _, _, _, _, _, _, _, _, _]) E rfl rfl rfl) ?_; clear E a; intro a E
          refine zp E (zCh (cells := [_, _, _, _]) E rfl rfl rfl) ?_; clear E a; intro a E
          refine zAn rfl (zAz E S rfl rfl rfl rfl (by simp [Value.oneCell']) rfl (by repeat (first | exact pk1 | apply zAc)) (by simp) ?_); clear E S a; intro a w E S; simp only [List.take_succ_cons, List.take_zero, List.drop_succ_cons, List.drop_zero, List.cons_append, List.nil_append, List.append_nil, List.length_cons, List.length_nil, Nat.zero_add, Nat.add_zero] at S
          refine zp E (zAd E rfl rfl) ?_; clear E a; intro a E
          refine zAn rfl (zAz E S rfl rfl rfl rfl (by simp [Value.oneCell']) rfl (by repeat (first | exact pk1 | apply zAc)) (by simp) ?_); clear E S a; intro a w E S; simp only [List.take_succ_cons, List.take_zero, List.drop_succ_cons, List.drop_zero, List.cons_append, List.nil_append, List.append_nil, List.length_cons, List.length_nil, Nat.zero_add, Nat.add_zero] at S
          refine zp E (zAd E rfl rfl) ?_; clear E a; intro a E
          refine wpList_nil ?_
          refine zAf hK ?_; clear hK; clear K
          refine wp_ret ?_
          refine zAv ?_; clear hK; clear K
          refine zEb E rfl rfl rfl rfl rfl (S.get (by repeat (first | exact pk1 | apply zAc))) rfl (S.get (by repeat (first | exact pk1 | apply zAc))) rfl ?_
          exact ⟨_, rfl, zFh (dec_3 h5 hkb hs2 (by omega)) ((St.drops0 [_, _, _] S).addNil).tr⟩
        · replace hb := Nrm.nrm hb
          refine wp_skip ?_
          refine zAf hK ?_; clear hK; clear K
          refine wp_seq_k ?_; intro K hK
          have h7 : 37 + n ≤ b.length := by omega
          obtain ⟨body, hbody⟩ : ∃ body, body = zFg b := ⟨_, rfl⟩
          have hRb := hD.bytes (lo := 5) (hi := 5 + n) (mx := c) (by omega) (by omega) (by omega)
          rw [show 5 + n - 5 = n by omega] at hRb
          have hbe : (b.drop 5).take n = body := by rw [hbody, zFg, ← hn]
          rw [hbe] at hRb
          have hbn : body.length ≤ 2048 := by rw [← hbe, List.length_take]; omega
          obtain ⟨own, hown⟩ : ∃ own, own = ownS k body s := ⟨_, rfl⟩
          have hownD : ownD b s = own := by rw [hown, hk, hbody]; exact (own_take (by omega) s).symm
          refine zDw (fun (a : Act) (w' : World) => ∃ b10 C2 v2, BB C2 v2 (zDc k body s) ∧ St w0 As w' (C2 :: [(b10, cel (fsC own) 29)] :: [(b6, cel [.int .u64 0, .int .u64 0, .int .u64 0, .int .u64 0] 29)] :: [(b4, cel [.int .i64 0, str [], .int .i64 0, .int .i64 0, .int .i64 0, .int .i64 0, str [], nilv, .int .i64 0, .int .i64 0, .int .i64 0, nilv, nilv] 26)] :: As) ∧ Fr a 115 [(0, .slice (some ⟨g, off, none⟩) b.length c), (4, ptr b4), (5, .int .i64 0), (6, ptr b6), (7, .int .i64 0), (8, .int .i64 n), (9, v2), (10, ptr b10)]) ?_ ?_
          · skip
            refine zCz S (.cons (0, 0) (.cons (1, 0) (.cons (2, 0) (.cons (3, 0) (.cons (4, 0) (.cons (5, 0) (.cons (6, 0) (.cons (7, 0) (.cons (8, 0) (.fork 9 (.ofL [(10, 0), (11, 0), (12, 0), (13, 1), (14, 0), (15, 3)]) 13 (.ofL [(9, 1), (10, 0), (11, 0), (12, 0), (14, 0), (15, 3)]))))))))))) [[(b3, cel (fsC s) 29)], D] (fun h => h.sub (by first | (simp; done) | (simp +contextual; done) | (simp [*]; done))) (by kernel_rfl) (by kernel_rfl) ?_
            clear S; intro w S
            refine zm E rfl (fun w h => zAe E rfl rfl) ?_; clear E a; intro a E
            refine zm E rfl (fun w h => zBl (i := 0) E rfl rfl rfl rfl rfl rfl (by omega)) ?_; clear E a; intro a E
            refine zm E rfl (fun w h => zAj E rfl rfl rfl (c0 (hD1 (by simp) h))) ?_; clear E a; intro a E
            refine zm E rfl (fun w h => zBe E rfl rfl rfl rfl (zDy (by omega))) ?_; clear E a; intro a E
            iterate 2 (refine zm E rfl (fun w h => zAe E rfl rfl) ?_; clear E a; intro a E)
            refine zm E rfl (fun w h => zBu E rfl rfl rfl (by first | exact zIi (x := 5) (by omega) | exact w_in (by omega) | exact zBt (by omega) | exact rfl)) ?_; clear E a; intro a E
            refine zm E rfl (fun w h => zEg (lo := 5) (hi := 5 + n) (s := 1) E rfl rfl rfl rfl rfl rfl rfl (by omega) (by omega) (by omega)) ?_; clear E a; intro a E
            refine zm E rfl (fun w h => zBp (vs := [_, _, _, _]) E rfl rfl rfl (h.one (by repeat (first | exact mm1 | assumption | apply List.Mem.tail))) rfl rfl) ?_; clear E a; intro a E
            refine ⟨?_, ?_⟩
            · skip
              refine zCc E rfl rfl rfl (by decide) rfl Tryz.func18 rfl (by kernel_rfl) rfl (zFm k (by omega) (by omega) hRb (by omega) s hok (by repeat (first | exact mm1 | assumption | apply List.Mem.tail)) (by repeat (first | exact hG0 | apply Tab.tail)) (by repeat (first | exact hG1 | apply Tab.tail)) _ S.hp) ?_
              rintro v75 w ⟨v2, C2, he, hB2, hT⟩; clear E a; intro a E
              rw [← hown] at he; subst he; have S := S.all hT
              refine ⟨S.stab.sub (by first | (simp; done) | (simp +contextual; done) | (simp [*]; done)), ?_⟩
              refine zm E rfl (fun w h => zAe E rfl rfl) ?_; clear E a; intro a E
              iterate 2 (refine zm E rfl (fun w h => zBm E rfl rfl rfl) ?_; clear E a; intro a E)
              refine zCp rfl rfl (zBs E S rfl rfl (by decide) rfl rfl rfl ?_); clear E S a; intro a w b10 E S; refine ⟨S.stab.sub (by first | (simp; done) | (simp +contextual; done) | (simp [*]; done)), ?_⟩
              refine zm E rfl (fun w h => zAd E rfl rfl) ?_; clear E a; intro a E
              refine zCk rfl rfl (zAz E S rfl rfl rfl rfl (by simp [Value.oneCell']) rfl (by repeat (first | exact pk1 | apply zAc)) (by simp) ?_); clear E S a; intro a w E S; simp only [List.take_succ_cons, List.take_zero, List.drop_succ_cons, List.drop_zero, List.cons_append, List.nil_append, List.append_nil, List.length_cons, List.length_nil, Nat.zero_add, Nat.add_zero] at S
              refine zBw ?_
              refine zAu ?_
              have S := (S.front1 (A := [(b3, _)]) (by repeat (first | exact pk1 | apply zAc))).tail
              exact ⟨b10, C2, v2, hB2, S.front4 (A := C2) (B := [(b10, _)]) (C := [(b6, _)]) (D := [(b4, _)]) (by repeat (first | exact pk1 | apply zAc)) (by repeat (first | exact pk1 | apply zAc)) (by repeat (first | exact pk1 | apply zAc)) (by repeat (first | exact pk1 | apply zAc)), E.keep (zAa rfl (zAa rfl (zAa rfl (zAa rfl (zAa rfl (zAa rfl (zAa rfl (zAa rfl zAm))))))))⟩
            · skip
              refine zCp rfl rfl (zBs E S rfl rfl (by decide) rfl rfl rfl ?_); clear E S a; intro a w b10 E S; refine ⟨S.stab.sub (by first | (simp; done) | (simp +contextual; done) | (simp [*]; done)), ?_⟩
              refine zCc E rfl rfl rfl (by decide) rfl Tryz.func18 rfl (by kernel_rfl) rfl (zFm k (by omega) (by omega) hRb (by omega) s hok (by repeat (first | exact mm1 | assumption | apply List.Mem.tail)) (by repeat (first | exact hG0 | apply Tab.tail)) (by repeat (first | exact hG1 | apply Tab.tail)) _ S.hp) ?_
              rintro v75 w ⟨v2, C2, he, hB2, hT⟩; clear E a; intro a E
              rw [← hown] at he; subst he; have S := S.all hT
              refine ⟨S.stab.sub (by first | (simp; done) | (simp +contextual; done) | (simp [*]; done)), ?_⟩
              refine zm E rfl (fun w h => zAe E rfl rfl) ?_; clear E a; intro a E
              iterate 2 (refine zm E rfl (fun w h => zBm E rfl rfl rfl) ?_; clear E a; intro a E)
              refine zm E rfl (fun w h => zAd E rfl rfl) ?_; clear E a; intro a E
              refine zCk rfl rfl (zAz E S rfl rfl rfl rfl (by simp [Value.oneCell']) rfl (by repeat (first | exact pk1 | apply zAc)) (by simp) ?_); clear E S a; intro a w E S; simp only [List.take_succ_cons, List.take_zero, List.drop_succ_cons, List.drop_zero, List.cons_append, List.nil_append, List.append_nil, List.length_cons, List.length_nil, Nat.zero_add, Nat.add_zero] at S
              refine zBw ?_
              refine zAu ?_
              have S := (S.front1 (A := [(b3, _)]) (by repeat (first | exact pk1 | apply zAc))).tail
              exact ⟨b10, C2, v2, hB2, S.front4 (A := C2) (B := [(b10, _)]) (C := [(b6, _)]) (D := [(b4, _)]) (by repeat (first | exact pk1 | apply zAc)) (by repeat (first | exact pk1 | apply zAc)) (by repeat (first | exact pk1 | apply zAc)) (by repeat (first | exact pk1 | apply zAc)), E.keep (zAa rfl (zAa rfl (zAa rfl (zAa rfl (zAa rfl (zAa rfl (zAa rfl (zAa rfl zAm))))))))⟩
          · clear E S a; intro a w J; obtain ⟨b10, C2, v2, hB2, S, E⟩ := J
            refine zAf hK ?_; clear hK; clear K
            iterate 2 (refine wp_seq_k ?_; intro K hK)
            have hRt := hD.bytes (lo := 0) (hi := 37 + n) (mx := c) (by omega) (by omega) (by omega)
            rw [List.drop_zero, Nat.sub_zero] at hRt
            have hpi := piece_iff (b := b) (by omega) s
            rw [← hk, ← hbody, ← hn] at hpi
            refine zCz S (.ofL [(0, 0), (1, 0), (2, 0), (3, 0), (4, 0), (5, 0), (6, 0), (7, 0)]) [C2, D] (fun h => h.sub (by first | (simp; done) | (simp +contextual; done) | (simp [*]; done))) (by kernel_rfl) (by kernel_rfl) ?_
            clear S; intro w S
            refine zm E rfl (fun w h => zAe E rfl rfl) ?_; clear E a; intro a E
            refine zm E rfl (fun w h => zCa E rfl rfl rfl rfl rfl hB2.rd (h.at (by repeat (first | exact mm1 | assumption | apply List.Mem.tail)))) ?_; clear E a; intro a E
            iterate 2 (refine zm E rfl (fun w h => zAe E rfl rfl) ?_; clear E a; intro a E)
            refine zm E rfl (fun w h => zBu E rfl rfl rfl (by first | exact zIi (x := 37) (by omega) | exact w_in (by omega) | exact zBt (by omega) | exact rfl)) ?_; clear E a; intro a E
            refine zm E rfl (fun w h => zFy (hi := 37 + n) (s := 1) E rfl rfl rfl rfl rfl rfl (by omega)) ?_; clear E a; intro a E
            refine zm E rfl (fun w h => zCa E rfl rfl rfl rfl rfl hRt (h.at (by repeat (first | exact mm1 | assumption | apply List.Mem.tail)))) ?_; clear E a; intro a E
            refine zm E rfl (fun w h => by first | exact zCu E rfl rfl rfl | exact zBg E rfl rfl rfl rfl | exact zBr E rfl rfl rfl rfl | exact zBk E rfl rfl rfl) ?_; clear E a; intro a E
            refine zBw ?_
            refine zAf hK ?_; clear hK; clear K
            refine zBf E rfl (fun hb => ?_) (fun hb => ?_)
            · replace hb := Nrm.nrm hb
              have hne : zDc k body s ≠ b.take (37 + n) := (by simpa using hb)
              refine wp_seq_k ?_; intro K hK
              refine zAb ?_
              refine zp E (zCh (cells := [_, _, _, _, _, _, _, _, _, _, _, _, _]) E rfl rfl rfl) ?_; clear E a; intro a E
              refine zp E (zCh (cells := [_, _, _, _]) E rfl rfl rfl) ?_; clear E a; intro a E
              refine zAn rfl (zAz E S rfl rfl rfl rfl (by simp [Value.oneCell']) rfl (by repeat (first | exact pk1 | apply zAc)) (by simp) ?_); clear E S a; intro a w E S; simp only [List.take_succ_cons, List.take_zero, List.drop_succ_cons, List.drop_zero, List.cons_append, List.nil_append, List.append_nil, List.length_cons, List.length_nil, Nat.zero_add, Nat.add_zero] at S
              refine zp E (zAd E rfl rfl) ?_; clear E a; intro a E
              refine zAn rfl (zAz E S rfl rfl rfl rfl (by simp [Value.oneCell']) rfl (by repeat (first | exact pk1 | apply zAc)) (by simp) ?_); clear E S a; intro a w E S; simp only [List.take_succ_cons, List.take_zero, List.drop_succ_cons, List.drop_zero, List.cons_append, List.nil_append, List.append_nil, List.length_cons, List.length_nil, Nat.zero_add, Nat.add_zero] at S
              refine zp E (zAd E rfl rfl) ?_; clear E a; intro a E
              refine wpList_nil ?_
              refine zAf hK ?_; clear hK; clear K
              refine wp_ret ?_
              refine zAv ?_; clear hK; clear K
              refine zEb E rfl rfl rfl rfl rfl (S.get (by repeat (first | exact pk1 | apply zAc))) rfl (S.get (by repeat (first | exact pk1 | apply zAc))) rfl ?_
              exact ⟨_, rfl, zFh (dec_4 h5 hkb hs2 (by omega) (by rw [← hn]; exact fun q => hne (hpi.2 q))) ((St.drops0 [_, _, _, _] S).addNil).tr⟩
            · replace hb := Nrm.nrm hb
              have heq : zDc k body s = b.take (37 + n) := (by simpa using hb)
              refine wp_skip ?_
              refine zAf hK ?_; clear hK; clear K
              refine wp_seq_k ?_; intro K hK
              obtain ⟨pre, hpre⟩ := perm_front mD
              have S := S.perm ((((hpre.cons _).cons _).cons _).cons _)
              have hse : zFa (ownD b s) = (b.drop (5 + zCf b)).take 32 := by rw [← hn]; exact hpi.1 heq
              refine zAb ?_
              iterate 2 (refine zp E (zAe E rfl rfl) ?_; clear E a; intro a E)
              refine zp E (zBu E rfl rfl rfl (by first | exact zIi (x := 5) (by omega) | exact w_in (by omega) | exact zBt (by omega) | exact rfl)) ?_; clear E a; intro a E
              refine zp E (zEg (lo := 5) (hi := 5 + n) (s := 1) E rfl rfl rfl rfl rfl rfl rfl (by omega) (by omega) (by omega)) ?_; clear E a; intro a E
              refine zAp E rfl rfl (by decide) rfl Tryz.func82 rfl (by kernel_rfl) rfl (uopen_ret D _ body _ hRb (S.hp.sel (zAk (by repeat (first | exact pk1 | apply zAc)) (zAr _))) (by omega)) ?_
              rintro v92 w ⟨p2, B, rfl, hB, hT⟩; clear E a; intro a E
              have S := S.call2 (zAk (by repeat (first | exact pk1 | apply zAc)) (zAr _)) hT
              refine zp E (zAd E rfl rfl) ?_; clear E a; intro a E
              refine wpList_nil ?_
              refine zAf hK ?_; clear hK; clear K
              refine wp_seq_k ?_; intro K hK
              refine zAb ?_
              refine zp E (zAe E rfl rfl) ?_; clear E a; intro a E
              refine zp E (zBl (i := 0) E rfl rfl rfl rfl rfl rfl (by omega)) ?_; clear E a; intro a E
              refine zp E (zAj E rfl rfl rfl (c0 (hD1 (by repeat (first | exact mm1 | assumption | apply List.Mem.tail)) S.stab))) ?_; clear E a; intro a E
              refine zp E (zBe E rfl rfl rfl rfl (zDy (by omega))) ?_; clear E a; intro a E
              refine zp E (zAe E rfl rfl) ?_; clear E a; intro a E
              refine zAp E rfl rfl (by decide) rfl Tryz.func83 rfl (by kernel_rfl) rfl (utold_ret k hin p2 ⟨body, 0, 0⟩ B hB _ (S.hp.sel (zAk (by repeat (first | exact pk1 | apply zAc)) (zAr _)))) ?_
              rintro v98 w ⟨B2, X, pv, kv, dv, he, hB2, hX, hT⟩; clear E a; intro a E
              have hsml := zLb hin ⟨body, 0, 0⟩
              obtain ⟨rec, rd, htk⟩ : ∃ rec rd, zFf k ⟨body, 0, 0⟩ = (rec, rd) := ⟨_, _, rfl⟩
              rw [htk] at he hB2 hX hsml
              simp only [Rec.cells] at he hB2 hX hsml
              subst he
              have S := S.call2 (zAk (by repeat (first | exact pk1 | apply zAc)) (zAr _)) hT
              obtain ⟨a1, c1', rfl⟩ := hX.rd.pr.slice
              obtain ⟨a2, c2', rfl⟩ := hX.rd.kr.slice
              obtain ⟨a3, c3', rfl⟩ := hX.rd.dr.slice
              refine zAn rfl (zBs E S rfl rfl (by decide) rfl rfl rfl ?_); clear E S a; intro a w b12 E S
              refine zAn rfl (zAz E S rfl rfl rfl rfl (by simp [Value.oneCell']) rfl (by repeat (first | exact pk1 | apply zAc)) (by simp) ?_); clear E S a; intro a w E S; simp only [List.take_succ_cons, List.take_zero, List.drop_succ_cons, List.drop_zero, List.cons_append, List.nil_append, List.append_nil, List.length_cons, List.length_nil, Nat.zero_add, Nat.add_zero] at S
              refine wpList_nil ?_
              refine zAf hK ?_; clear hK; clear K
              refine wp_seq_k ?_; intro K hK
              replace E := E.keep (e' := [(4, _), (5, _), (6, _), (7, _), (8, _), (10, _), (11, _), (12, _)]) (zAa rfl (zAa rfl (zAa rfl (zAa rfl (zAa rfl (zAa rfl (zAa rfl (zAa rfl (zAm)))))))))
              refine zAb ?_
              refine zp E (zAe E rfl rfl) ?_; clear E a; intro a E
              refine zAp E rfl rfl (by decide) rfl Tryz.func84 rfl (by kernel_rfl) rfl (udone_ret p2 rd B2 _ hB2 (S.hp.sel (zAk (by repeat (first | exact pk1 | apply zAc)) (zAr _)))) ?_
              rintro v100 w ⟨rfl, hT⟩; clear E a; intro a E
              have S := S.call1 (zAk (by repeat (first | exact pk1 | apply zAc)) (zAr _)) hT
              refine zp E (zAd E rfl rfl) ?_; clear E a; intro a E
              refine wpList_nil ?_
              refine zAf hK ?_; clear hK; clear K
              refine wp_seq_k ?_; intro K hK
              refine zAb ?_
              refine zp E (zBp (vs := [_, _, _, _, _, _, _, _, _, _, _, _, _]) E rfl rfl rfl (S.get (by repeat (first | exact pk1 | apply zAc))) rfl rfl) ?_; clear E a; intro a E
              refine zAp E rfl rfl (by decide) rfl Tryz.func15 rfl (by kernel_rfl) rfl (ucheck_ret hX.rd hsml (by repeat (first | exact mm1 | assumption | apply List.Mem.tail)) _ S.hp) ?_
              rintro v102 w ⟨rfl, hT⟩; clear E a; intro a E
              have S := S.all hT
              refine zp E (zAd E rfl rfl) ?_; clear E a; intro a E
              refine wpList_nil ?_
              refine zAf hK ?_; clear hK; clear K
              iterate 2 (refine wp_seq_k ?_; intro K hK)
              refine zAb ?_
              refine zp E (zAe E rfl rfl) ?_; clear E a; intro a E
              refine zp E (by first | exact zCu E rfl rfl rfl | exact zBg E rfl rfl rfl rfl | exact zBr E rfl rfl rfl rfl | exact zBk E rfl rfl rfl) ?_; clear E a; intro a E
              refine zp E (zAe E rfl rfl) ?_; clear E a; intro a E
              refine zAs E (t := 105) rfl (fun hb105 => ?_) (fun hb105 => ?_)
              · have hb105n := hb105; replace hb105n := Nrm.nrm hb105n
                iterate 2 (refine zn E hb105 ?_; clear E a; intro a E)
                refine zp E (zAl E rfl rfl hb105 rfl) ?_; clear E a; intro a E
                refine wpList_nil ?_
                refine zAf hK ?_; clear hK; clear K
                refine zCi E rfl rfl ?_
                refine wp_seq_k ?_; intro K hK
                refine zAb ?_
                refine zp E (zCh (cells := [_, _, _, _, _, _, _, _, _, _, _, _, _]) E rfl rfl rfl) ?_; clear E a; intro a E
                refine zp E (zCh (cells := [_, _, _, _]) E rfl rfl rfl) ?_; clear E a; intro a E
                refine zAn rfl (zAz E S rfl rfl rfl rfl (by simp [Value.oneCell']) rfl (by repeat (first | exact pk1 | apply zAc)) (by simp) ?_); clear E S a; intro a w E S; simp only [List.take_succ_cons, List.take_zero, List.drop_succ_cons, List.drop_zero, List.cons_append, List.nil_append, List.append_nil, List.length_cons, List.length_nil, Nat.zero_add, Nat.add_zero] at S
                refine zp E (zAd E rfl rfl) ?_; clear E a; intro a E
                refine zAn rfl (zAz E S rfl rfl rfl rfl (by simp [Value.oneCell']) rfl (by repeat (first | exact pk1 | apply zAc)) (by simp) ?_); clear E S a; intro a w E S; simp only [List.take_succ_cons, List.take_zero, List.drop_succ_cons, List.drop_zero, List.cons_append, List.nil_append, List.append_nil, List.length_cons, List.length_nil, Nat.zero_add, Nat.add_zero] at S
                refine zp E (zAd E rfl rfl) ?_; clear E a; intro a E
                refine wpList_nil ?_
                refine zAf hK ?_; clear hK; clear K
                refine wp_ret ?_
                refine zAv ?_; clear hK; clear K
                refine zEb E rfl rfl rfl rfl rfl (S.get (by repeat (first | exact pk1 | apply zAc))) rfl (S.get (by repeat (first | exact pk1 | apply zAc))) rfl ?_
                refine ⟨_, rfl, zFh (dec_5 h5 hkb hs2 (by omega) hse ?_) ?_⟩
                · rw [← hk, ← hbody, htk]
                  first
                    | exact .inl (by simp only; omega)
                    | exact .inr (ckE_no hb)
                · exact ((St.drops0 [_, _, _, _, _, _, _] (S.front7 (A := [(b6, _)]) (B := [(b4, _)]) (C := B2) (D := [(b12, _)]) (F := X) (G := C2) (I := [(b10, _)]) (by repeat (first | exact pk1 | apply zAc)) (by repeat (first | exact pk1 | apply zAc)) (by repeat (first | exact pk1 | apply zAc)) (by repeat (first | exact pk1 | apply zAc)) (by repeat (first | exact pk1 | apply zAc)) (by repeat (first | exact pk1 | apply zAc)) (by repeat (first | exact pk1 | apply zAc)))).perm hpre.symm).addNil.tr
              · have hb105n := hb105; replace hb105n := Nrm.nrm hb105n
                refine zy E hb105 (zAe E rfl rfl) ?_; clear E a; intro a E
                refine zy E hb105 (by first | exact zCu E rfl rfl rfl | exact zBg E rfl rfl rfl rfl | exact zBr E rfl rfl rfl rfl | exact zBk E rfl rfl rfl) ?_; clear E a; intro a E
                refine zp E (zAi E rfl rfl hb105 rfl) ?_; clear E a; intro a E
                refine wpList_nil ?_
                refine zAf hK ?_; clear hK; clear K
                refine zBf E rfl (fun hb => ?_) (fun hb => ?_)
                · replace hb := Nrm.nrm hb
                  refine wp_seq_k ?_; intro K hK
                  refine zAb ?_
                  refine zp E (zCh (cells := [_, _, _, _, _, _, _, _, _, _, _, _, _]) E rfl rfl rfl) ?_; clear E a; intro a E
                  refine zp E (zCh (cells := [_, _, _, _]) E rfl rfl rfl) ?_; clear E a; intro a E
                  refine zAn rfl (zAz E S rfl rfl rfl rfl (by simp [Value.oneCell']) rfl (by repeat (first | exact pk1 | apply zAc)) (by simp) ?_); clear E S a; intro a w E S; simp only [List.take_succ_cons, List.take_zero, List.drop_succ_cons, List.drop_zero, List.cons_append, List.nil_append, List.append_nil, List.length_cons, List.length_nil, Nat.zero_add, Nat.add_zero] at S
                  refine zp E (zAd E rfl rfl) ?_; clear E a; intro a E
                  refine zAn rfl (zAz E S rfl rfl rfl rfl (by simp [Value.oneCell']) rfl (by repeat (first | exact pk1 | apply zAc)) (by simp) ?_); clear E S a; intro a w E S; simp only [List.take_succ_cons, List.take_zero, List.drop_succ_cons, List.drop_zero, List.cons_append, List.nil_append, List.append_nil, List.length_cons, List.length_nil, Nat.zero_add, Nat.add_zero] at S
                  refine zp E (zAd E rfl rfl) ?_; clear E a; intro a E
                  refine wpList_nil ?_
                  refine zAf hK ?_; clear hK; clear K
                  refine wp_ret ?_
                  refine zAv ?_; clear hK; clear K
                  refine zEb E rfl rfl rfl rfl rfl (S.get (by repeat (first | exact pk1 | apply zAc))) rfl (S.get (by repeat (first | exact pk1 | apply zAc))) rfl ?_
                  refine ⟨_, rfl, zFh (dec_5 h5 hkb hs2 (by omega) hse ?_) ?_⟩
                  · rw [← hk, ← hbody, htk]
                    first
                      | exact .inl (by simp only; omega)
                      | exact .inr (ckE_no hb)
                  · exact ((St.drops0 [_, _, _, _, _, _, _] (S.front7 (A := [(b6, _)]) (B := [(b4, _)]) (C := B2) (D := [(b12, _)]) (F := X) (G := C2) (I := [(b10, _)]) (by repeat (first | exact pk1 | apply zAc)) (by repeat (first | exact pk1 | apply zAc)) (by repeat (first | exact pk1 | apply zAc)) (by repeat (first | exact pk1 | apply zAc)) (by repeat (first | exact pk1 | apply zAc)) (by repeat (first | exact pk1 | apply zAc)) (by repeat (first | exact pk1 | apply zAc)))).perm hpre.symm).addNil.tr
                · replace hb := Nrm.nrm hb
                  refine wp_skip ?_
                  refine zAf hK ?_; clear hK; clear K
                  refine wp_seq_k ?_; intro K hK
                  refine zCz S (.ofL [(0, 0), (1, 0), (2, 0), (3, 0), (4, 1), (5, 0), (6, 3), (7, 2)]) [[(b12, cel [.int .i64 rec.kind, str rec.name, .int .i64 rec.typ, .int .i64 rec.frm, .int .i64 rec.guid, .int .i64 rec.origin, str rec.snap, .slice a1 rec.props.length c1', .int .i64 rec.object, .int .i64 rec.at_, .int .i64 rec.many, .slice a2 rec.keep.length c2', .slice a3 rec.data.length c3'] 26)], [(b10, cel (fsC own) 29)]] (fun h => h.sub (by first | (simp; done) | (simp +contextual; done) | (simp [*]; done))) (by kernel_rfl) (by kernel_rfl) ?_
                  clear S; intro w S
                  refine zm E rfl (fun w h => zBp (vs := [_, _, _, _, _, _, _, _, _, _, _, _, _]) E rfl rfl rfl (h.one (by repeat (first | exact mm1 | assumption | apply List.Mem.tail))) rfl rfl) ?_; clear E a; intro a E
                  refine zm E rfl (fun w h => zAe E rfl rfl) ?_; clear E a; intro a E
                  refine zm E rfl (fun w h => zBu E rfl rfl rfl (by first | exact zIi (x := 37) (by omega) | exact w_in (by omega) | exact zBt (by omega) | exact rfl)) ?_; clear E a; intro a E
                  refine zm E rfl (fun w h => zBp (vs := [_, _, _, _]) E rfl rfl rfl (h.one (by repeat (first | exact mm1 | assumption | apply List.Mem.tail))) rfl rfl) ?_; clear E a; intro a E
                  refine zCp rfl rfl (zAz E S rfl rfl rfl rfl (by simp [Value.oneCell']) rfl (by repeat (first | exact pk1 | apply zAc)) (by simp) ?_); clear E S a; intro a w E S; simp only [List.take_succ_cons, List.take_zero, List.drop_succ_cons, List.drop_zero, List.cons_append, List.nil_append, List.append_nil, List.length_cons, List.length_nil, Nat.zero_add, Nat.add_zero] at S; refine ⟨S.stab.sub (by first | (simp; done) | (simp +contextual; done) | (simp [*]; done)), ?_⟩
                  refine zm E rfl (fun w h => zAd E rfl rfl) ?_; clear E a; intro a E
                  refine zCk rfl rfl (zAz E S rfl rfl rfl rfl (by simp [Value.oneCell']) rfl (by repeat (first | exact pk1 | apply zAc)) (by simp) ?_); clear E S a; intro a w E S; simp only [List.take_succ_cons, List.take_zero, List.drop_succ_cons, List.drop_zero, List.cons_append, List.nil_append, List.append_nil, List.length_cons, List.length_nil, Nat.zero_add, Nat.add_zero] at S
                  refine zCg E rfl rfl rfl (by decide) (fun w => zAd E rfl rfl) ?_; clear E a; intro a E
                  refine zBw ?_
                  refine zAf hK ?_; clear hK; clear K
                  refine wp_ret ?_
                  refine zEb E rfl rfl rfl rfl rfl (S.get (by repeat (first | exact pk1 | apply zAc))) rfl (S.get (by repeat (first | exact pk1 | apply zAc))) rfl ?_
                  refine ⟨_, rfl, ?_⟩
                  show decP (decR b s) As w0 _ _
                  rw [dec_6 h5 hkb hs2 (by omega) hse (by rw [← hk, ← hbody, htk]; simp only; omega) (by rw [← hk, ← hbody, htk]; exact ckE_yes hb), hownD, ← hn, ← hk, ← hbody, htk]
                  exact ⟨X, _, _, _, rfl, hX, (((St.drops [_, _, _, _, _, _] (S.front7 (A := X) (B := [(b6, _)]) (C := [(b4, _)]) (D := B2) (F := [(b12, _)]) (G := C2) (I := [(b10, _)]) (by repeat (first | exact pk1 | apply zAc)) (by repeat (first | exact pk1 | apply zAc)) (by repeat (first | exact pk1 | apply zAc)) (by repeat (first | exact pk1 | apply zAc)) (by repeat (first | exact pk1 | apply zAc)) (by repeat (first | exact pk1 | apply zAc)) (by repeat (first | exact pk1 | apply zAc)))).perm (hpre.symm.cons _))).tr⟩
end Go.Proofs.YtbogecljkaimdaaGreatDoor
namespace Go.Sl
def Took (s s' : Rdr) (x : List UInt8) : Prop := s'.e = 0 → s.e = 0 ∧ s'.bs = s.bs ∧ (s.at_ ≤ s.bs.length → s'.at_ ≤ s.bs.length ∧ s.bs.drop s.at_ = x ++ s.bs.drop s'.at_)
theorem Took.trans {s s' s'' : Rdr} {x y : List UInt8} (h : Took s s' x) (k : Took s' s'' y) : Took s s'' (x ++ y) := fun he => by
  obtain ⟨k1, k2, k3⟩ := k he
  obtain ⟨h1, h2, h3⟩ := h k1
  refine ⟨h1, k2.trans h2, fun hl => ?_⟩
  obtain ⟨h4, h5⟩ := h3 hl
  rw [h2] at k3
  obtain ⟨k4, k5⟩ := k3 h4
  exact ⟨k4, by rw [h5, k5, List.append_assoc]⟩
theorem Took.refl (s : Rdr) : Took s s [] := fun h => ⟨h, rfl, fun hl => ⟨hl, by simp⟩⟩
end Go.Sl
namespace Go.Proofs.YtbogecljkaimdaaGreatDoor
open Go.Sl
set_option maxRecDepth 10000
def catB : Fs → List Rec → List UInt8
  | _, [] => []
  | s, r :: l => zDc r.kind (zDz r.kind r) s ++ catB (ownS r.kind (zDz r.kind r) s) l
theorem str_cat : ∀ (l : List Rec) (x : List UInt8) (s : Fs), (l.foldl (fun (x : List UInt8 × Fs) r => (x.1 ++ zDc r.kind (zDz r.kind r) x.2, ownS r.kind (zDz r.kind r) x.2)) (x, s)).1 = x ++ catB s l
  | [], x, s => by simp [catB]
  | r :: l, x, s => by
    rw [List.foldl_cons, str_cat l, catB, List.append_assoc]
theorem strS_cat (l : List Rec) : (strS l).1 = catB zEj l := by
  have := str_cat l [] zEj
  rwa [List.nil_append] at this
theorem piece_ne (k : Int) (b : List UInt8) (s : Fs) (t : List UInt8) : zDc k b s ++ t ≠ [] := fun h => by
  have := congrArg List.length h
  rw [List.length_append, zFx] at this
  simp at this
theorem rec_cat : ∀ (l : List Rec) (s : Fs) (acc : List Rec), (∀ r ∈ l, ckB r = true) → recG (catB s l) s acc = (0, acc ++ l)
  | [], s, acc, _ => by rw [catB, zHe, List.append_nil]
  | r :: l, s, acc, h => by
    have hr := h r (List.mem_cons_self ..)
    have hd := dec_enc hr s (catB (ownS r.kind (zDz r.kind r) s) l)
    rw [catB, zLf acc (piece_ne _ _ _ _) (by rw [hd]), hd]
    simp only [List.drop_left]
    rw [rec_cat l _ _ fun q hq => h q (List.mem_cons_of_mem _ hq), List.append_assoc]
    rfl
theorem str_rec {l : List Rec} (h : (strR l).1 = 0) : (∀ r ∈ l, ckB r = true) ∧ (strR l).2.length ≤ 1048576 ∧ zGj (strR l).2 = (0, l) := by
  unfold strR at h ⊢
  by_cases hc : ∀ r ∈ l, ckB r = true
  · rw [if_pos hc] at h ⊢
    by_cases hl : 1048576 < (strS l).1.length
    · rw [if_pos hl] at h; cases h
    · rw [if_neg hl]
      refine ⟨hc, by simp only; omega, ?_⟩
      rw [zGj, if_neg (by simp only; omega)]
      simp only
      rw [strS_cat, rec_cat l _ _ hc, List.nil_append]
  · rw [if_neg hc] at h; cases h
theorem str_err {l : List Rec} (h : (strR l).1 ≠ 0) : (strR l).2 = [] ∧ ((∀ r ∈ l, ckB r = true) ↔ (strR l).1 = 2) := by
  unfold strR at h ⊢
  by_cases hc : ∀ r ∈ l, ckB r = true
  · rw [if_pos hc] at h ⊢
    by_cases hl : 1048576 < (strS l).1.length
    · rw [if_pos hl]; exact ⟨rfl, fun _ => rfl, fun _ => hc⟩
    · rw [if_neg hl] at h; exact absurd rfl h
  · rw [if_neg hc]
    exact ⟨rfl, fun q => absurd q hc, fun q => by cases q⟩
end Go.Proofs.YtbogecljkaimdaaGreatDoor
