/-
  Texts put together (8).
-/
import Derived.Test.YtbogecljkaimdaaGreatDoorZRecordReadsW7
set_option maxHeartbeats 1000000
namespace Go.Proofs.YtbogecljkaimdaaGreatDoor
open Go.Sl
set_option maxRecDepth 10000
section
variable (p b : Nat) (k : Int) (s : Rdr) (A : zAl) (hA : RdC 108 p s A) (w0 : World) (H : Hp w0 [A, [(b, cel ((zCy k).cells nilv nilv nilv) 26)]])
include hA H
theorem take2_ret : Ret Tryz.prog 95 #[ptr p, ptr b] w0 fun _ w' => ∃ A' D pv kv dv, RdC 108 p (zHs k s).2 A' ∧ zIx D (zHs k s).1 pv kv dv ∧ Trs w0 w' [A, [(b, cel ((zCy k).cells nilv nilv nilv) 26)]] [A', [(b, cel ((zHs k s).1.cells pv kv dv) 26)], D] := by
 have S := St.begin H
 obtain ⟨x0, h0⟩ : ∃ x, x = s.text 240 := ⟨_, rfl⟩
 obtain ⟨x1, h1⟩ : ∃ x, x = x0.2.num 1 := ⟨_, rfl⟩
 obtain ⟨x2, h2⟩ : ∃ x, x = x1.2.num 6 := ⟨_, rfl⟩
 obtain ⟨x3, h3⟩ : ∃ x, x = x2.2.num 6 := ⟨_, rfl⟩
 obtain ⟨x4, h4⟩ : ∃ x, x = x3.2.num 1 := ⟨_, rfl⟩
 obtain ⟨x5, h5⟩ : ∃ x, x = x4.2.text 24 := ⟨_, rfl⟩
 obtain ⟨x6, h6⟩ : ∃ x, x = x5.2.num 1 := ⟨_, rfl⟩
 have n1 : x1.1 < 256 := by rw [h1]; exact zCk _ 1
 have n2 : x2.1 < 281474976710656 := by rw [h2]; exact zCk _ 6
 have n3 : x3.1 < 281474976710656 := by rw [h3]; exact zCk _ 6
 have n4 : x4.1 < 256 := by rw [h4]; exact zCk _ 1
 have n6 : x6.1 < 256 := by rw [h6]; exact zCk _ 1
 obtain ⟨r1, hr1⟩ : ∃ r1 : Rec, r1 = { zCy k with name := x0.1, typ := x1.1, frm := x2.1, guid := x3.1, origin := x4.1, snap := x5.1 } := ⟨_, rfl⟩
 have htk : zHs k s = ({ r1 with props := (prpS x6.2 x6.1).1 }, (prpS x6.2 x6.1).2) := by rw [hr1, h6, h5, h4, h3, h2, h1, h0]; rfl
 have hcl : ∀ v, r1.cells v nilv nilv = [.int .i64 k, str x0.1, .int .i64 x1.1, .int .i64 x2.1, .int .i64 x3.1, .int .i64 x4.1, str x5.1, v, .int .i64 0, .int .i64 0, .int .i64 0, nilv, nilv] := fun v => by rw [hr1]; rfl
 refine zBt 57 Tryz.func95 rfl rfl dZ ?_; intro a E
 refine wp_seq_k ?_; intro K hK
 refine zAa ?_
 iterate 2 (refine zd E ?_; clear E a; intro a E)
 refine zAh E rfl rfl dZ rfl Tryz.func53 rfl yZ rfl (zGp p s A _ hA (S.hp.sel sZ) 240) ?_
 rintro v6 w ⟨A1, rfl, hA1, hT⟩; clear E a; intro a E
 replace S := S.call1 sZ hT; rw [← h0] at E hA1
 refine zd E ?_; clear E a; intro a E
 refine zp E (by first | exact zAc (q := 1) E rfl rfl rfl | exact zAd (q := 1) E rfl rfl rfl) ?_; clear E a; intro a E
 refine zAg rfl (zAv E S rfl rfl rfl rfl rfl rfl pZ (by first | exact Nat.le_of_ble_eq_true rfl | (simp; done) | (simp; omega)) ?_); clear E S a; intro a w E S; try dsimp only [List.set] at S
 refine wpList_nil ?_
 refine zAb hK ?_; clear hK K
 refine wp_seq_k ?_; intro K hK
 refine zAa ?_
 iterate 5 (refine zd E ?_; clear E a; intro a E)
 refine zAh E rfl rfl dZ rfl Tryz.func44 rfl yZ rfl (zDm p _ A1 _ hA1 (S.hp.sel sZ) 1) ?_
 rintro v14 w ⟨A2, rfl, hA2, hT⟩; clear E a; intro a E
 replace S := S.call1 sZ hT; rw [← h1] at E hA2
 refine zp E (by first | exact zAo E rfl rfl rfl rfl (by first | exact wu8 _ | exact zCz oZ | exact zCe oZ | exact w_in oZ | exact zBb oZ | exact rfl) | exact zBh E rfl rfl rfl rfl rfl (by assumption) (S.stab.at (by simp))) ?_; clear E a; intro a E
 refine zd E ?_; clear E a; intro a E
 refine zAh E rfl rfl dZ rfl Tryz.func44 rfl yZ rfl (zDm p _ A2 _ hA2 (S.hp.sel sZ) 6) ?_
 rintro v17 w ⟨A3, rfl, hA3, hT⟩; clear E a; intro a E
 replace S := S.call1 sZ hT; rw [← h2] at E hA3
 refine zp E (by first | exact zAo E rfl rfl rfl rfl (by first | exact wu8 _ | exact zCz oZ | exact zCe oZ | exact w_in oZ | exact zBb oZ | exact rfl) | exact zBh E rfl rfl rfl rfl rfl (by assumption) (S.stab.at (by simp))) ?_; clear E a; intro a E
 refine zd E ?_; clear E a; intro a E
 refine zAh E rfl rfl dZ rfl Tryz.func44 rfl yZ rfl (zDm p _ A3 _ hA3 (S.hp.sel sZ) 6) ?_
 rintro v20 w ⟨A4, rfl, hA4, hT⟩; clear E a; intro a E
 replace S := S.call1 sZ hT; rw [← h3] at E hA4
 refine zp E (by first | exact zAo E rfl rfl rfl rfl (by first | exact wu8 _ | exact zCz oZ | exact zCe oZ | exact w_in oZ | exact zBb oZ | exact rfl) | exact zBh E rfl rfl rfl rfl rfl (by assumption) (S.stab.at (by simp))) ?_; clear E a; intro a E
 refine zd E ?_; clear E a; intro a E
 refine zAh E rfl rfl dZ rfl Tryz.func44 rfl yZ rfl (zDm p _ A4 _ hA4 (S.hp.sel sZ) 1) ?_
 rintro v23 w ⟨A5, rfl, hA5, hT⟩; clear E a; intro a E
 replace S := S.call1 sZ hT; rw [← h4] at E hA5
 refine zp E (by first | exact zAo E rfl rfl rfl rfl (by first | exact wu8 _ | exact zCz oZ | exact zCe oZ | exact w_in oZ | exact zBb oZ | exact rfl) | exact zBh E rfl rfl rfl rfl rfl (by assumption) (S.stab.at (by simp))) ?_; clear E a; intro a E
 refine zd E ?_; clear E a; intro a E
 refine zp E (by first | exact zAc (q := 2) E rfl rfl rfl | exact zAd (q := 2) E rfl rfl rfl) ?_; clear E a; intro a E
 refine zAg rfl (zAv E S rfl rfl rfl rfl rfl rfl pZ (by first | exact Nat.le_of_ble_eq_true rfl | (simp; done) | (simp; omega)) ?_); clear E S a; intro a w E S; try dsimp only [List.set] at S
 refine zd E ?_; clear E a; intro a E
 refine zp E (by first | exact zAc (q := 3) E rfl rfl rfl | exact zAd (q := 3) E rfl rfl rfl) ?_; clear E a; intro a E
 refine zAg rfl (zAv E S rfl rfl rfl rfl rfl rfl pZ (by first | exact Nat.le_of_ble_eq_true rfl | (simp; done) | (simp; omega)) ?_); clear E S a; intro a w E S; try dsimp only [List.set] at S
 refine zd E ?_; clear E a; intro a E
 refine zp E (by first | exact zAc (q := 4) E rfl rfl rfl | exact zAd (q := 4) E rfl rfl rfl) ?_; clear E a; intro a E
 refine zAg rfl (zAv E S rfl rfl rfl rfl rfl rfl pZ (by first | exact Nat.le_of_ble_eq_true rfl | (simp; done) | (simp; omega)) ?_); clear E S a; intro a w E S; try dsimp only [List.set] at S
 refine zd E ?_; clear E a; intro a E
 refine zp E (by first | exact zAc (q := 5) E rfl rfl rfl | exact zAd (q := 5) E rfl rfl rfl) ?_; clear E a; intro a E
 refine zAg rfl (zAv E S rfl rfl rfl rfl rfl rfl pZ (by first | exact Nat.le_of_ble_eq_true rfl | (simp; done) | (simp; omega)) ?_); clear E S a; intro a w E S; try dsimp only [List.set] at S
 refine wpList_nil ?_
 refine zAb hK ?_; clear hK K
 refine wp_seq_k ?_; intro K hK
 replace E := E.keep (e' := [(0, _), (1, _)]) (kE2 rfl rfl)
 refine zAa ?_
 iterate 2 (refine zd E ?_; clear E a; intro a E)
 refine zAh E rfl rfl dZ rfl Tryz.func53 rfl yZ rfl (zGp p _ A5 _ hA5 (S.hp.sel sZ) 24) ?_
 rintro v35 w ⟨A6, rfl, hA6, hT⟩; clear E a; intro a E
 replace S := S.call1 sZ hT; rw [← h5] at E hA6
 refine zd E ?_; clear E a; intro a E
 refine zp E (by first | exact zAc (q := 6) E rfl rfl rfl | exact zAd (q := 6) E rfl rfl rfl) ?_; clear E a; intro a E
 refine zAg rfl (zAv E S rfl rfl rfl rfl rfl rfl pZ (by first | exact Nat.le_of_ble_eq_true rfl | (simp; done) | (simp; omega)) ?_); clear E S a; intro a w E S; try dsimp only [List.set] at S
 refine wpList_nil ?_
 refine zAb hK ?_; clear hK K
 refine wp_seq_k ?_; intro K hK
 refine zAa ?_
 refine zd E ?_; clear E a; intro a E
 refine zAh E rfl rfl dZ rfl Tryz.func44 rfl yZ rfl (zDm p _ A6 _ hA6 (S.hp.sel sZ) 1) ?_
 rintro v39 w ⟨A7, rfl, hA7, hT⟩; clear E a; intro a E
 replace S := S.call1 sZ hT; rw [← h6] at E hA7
 refine zd E ?_; clear E a; intro a E
 refine wpList_nil ?_
 refine zAb hK ?_; clear hK K
 refine wp_block ?_
 refine wp_loop_ghost (fun (m : Nat) (a : Act) (w' : World) => ∃ (i : Nat) (A' D1 : zAl) (v : Value), m = x6.1 - i ∧ i ≤ x6.1 ∧ RdC 108 p (prpS x6.2 i).2 A' ∧ Buf D1 70 2 v i ((prpS x6.2 i).1.flatMap Prp.lay) ∧ St w0 [A, [(b, cel ((zCy k).cells nilv nilv nilv) 26)]] w' [A', [(b, cel [.int .i64 k, str x0.1, .int .i64 x1.1, .int .i64 x2.1, .int .i64 x3.1, .int .i64 x4.1, str x5.1, v, .int .i64 0, .int .i64 0, .int .i64 0, nilv, nilv] 26)], D1] ∧ Fr a 57 [(0, ptr p), (1, ptr b), (39, .int .u64 x6.1), (40, .int .u64 i)]) (x6.1) ?_ ?_
 ·exact ⟨0, A7, [], nilv, by omega, by omega, hA7, Buf.nil _ _, S.addNil.perm (Bs := [A7, _, []]) (zBa pZ (zBa pZ (zBa pZ (zDc _)))), E.keep (kE4 rfl rfl rfl rfl)⟩
 clear E; clear a; (try clear S); rintro m a w ⟨i, A', D1, v, rfl, hi, hA', hB, S, E⟩
 refine wp_seq_k ?_; intro K hK
 refine zAa ?_
 refine zd E ?_; clear E a; intro a E
 refine wpList_nil ?_
 refine zAb hK ?_; clear hK K
 refine wp_seq_k ?_; intro K hK
 refine zAs E rfl (fun hb => ?_) (fun hb => ?_)
 ·replace hb := Nrm.nrm hb
  refine wp_skip ?_
  refine zAb hK ?_; clear hK K
  refine wp_seq_k ?_; intro K hK
  refine wp_block ?_
  obtain ⟨adv, cv, rfl⟩ := hB.slice
  refine zCn S (.ofL [(0, 0), (1, 0), (2, 0), (3, 0), (4, 0), (5, 0), (7, 0), (6, 1), (8, 1), (9, 0), (10, 1), (11, 1), (12, 0), (13, 0), (14, 3)]) [[(b, cel [.int .i64 k, str x0.1, .int .i64 x1.1, .int .i64 x2.1, .int .i64 x3.1, .int .i64 x4.1, str x5.1, .slice adv i cv, .int .i64 0, .int .i64 0, .int .i64 0, nilv, nilv] 26)]] (fun h => h.sub (by first | (simp; done) | (simp +contextual; done) | (simp [*]; done))) yZ yZ ?_
  clear S; intro w S
  iterate 3 (refine zmd E ?_; clear E a; intro a E)
  refine zm E rfl (fun w h => by first | exact zAc (q := 7) E rfl rfl rfl | exact zAd (q := 7) E rfl rfl rfl) ?_; clear E a; intro a E
  iterate 3 (refine zmd E ?_; clear E a; intro a E)
  refine zBs E rfl rfl rfl dZ rfl Tryz.func53 rfl yZ rfl (zGp p _ A' _ hA' (S.hp.sel sZ) 24) ?_
  rintro v48 w ⟨B1, rfl, hB1, hT⟩; clear E a; intro a E
  replace S := S.call1 sZ hT; obtain ⟨y, hy⟩ : ∃ y, y = (prpS x6.2 i).2.text 24 := ⟨_, rfl⟩; rw [← hy] at E hB1
  refine ⟨S.stab.sub (by first | (simp; done) | (simp +contextual; done) | (simp [*]; done)), ?_⟩
  refine zBs E rfl rfl rfl dZ rfl Tryz.func53 rfl yZ rfl (zGp p _ B1 _ hB1 (S.hp.sel sZ) 64) ?_
  rintro v50 w ⟨B2, rfl, hB2, hT⟩; clear E a; intro a E
  replace S := S.call1 sZ hT; obtain ⟨z, hz⟩ : ∃ z, z = y.2.text 64 := ⟨_, rfl⟩; rw [← hz] at E hB2
  refine ⟨S.stab.sub (by first | (simp; done) | (simp +contextual; done) | (simp [*]; done)), ?_⟩
  refine zm E rfl (fun w h => zBp (cells := [_, _]) E rfl rfl rfl) ?_; clear E a; intro a E
  refine zCu rfl rfl (zCm (cells := [_, _]) E S rfl rfl dZ rfl rfl rfl rfl rfl dZ rfl ?_); clear E S a; intro a w b52 E S; refine ⟨S.stab.sub (by first | (simp; done) | (simp +contextual; done) | (simp [*]; done)), ?_⟩
  refine zCu rfl rfl (zBu (by' := 32) E S rfl rfl dZ rfl rfl hB pZ ((zEa (g := b52) (T := 70) (xs := [str y.1, str z.1]) (s := 2) (m := 1) rfl (by simp [Value.oneCell']) oZ 1).src (S.stab.at mZ) rfl) rfl rfl rfl rfl rfl rfl (by simp only [maxLen]; omega) oZ ?_); clear E S a; intro a w v53 C53 E S hB53; refine ⟨S.stab.sub (by first | (simp; done) | (simp +contextual; done) | (simp [*]; done)), ?_⟩
  obtain ⟨ad2, c2, rfl⟩ := hB53.slice
  refine zmd E ?_; clear E a; intro a E
  refine zm E rfl (fun w h => by first | exact zAc (q := 7) E rfl rfl rfl | exact zAd (q := 7) E rfl rfl rfl) ?_; clear E a; intro a E
  refine zCb rfl rfl (zAv E S rfl rfl rfl rfl rfl rfl pZ (by first | exact Nat.le_of_ble_eq_true rfl | (simp; done) | (simp; omega)) ?_); clear E S a; intro a w E S; try dsimp only [List.set] at S
  refine zBi ?_
  refine zAr ?_
  refine zAb hK ?_; clear hK K
  refine zAa ?_
  refine zp E (zBc E rfl rfl rfl (by first | exact zBq (y := 1) oZ | exact w_in oZ | exact zBb oZ | exact rfl)) ?_; clear E a; intro a E
  refine zd E ?_; clear E a; intro a E
  refine wpList_nil ?_
  refine zAy ?_
  have hps : prpS x6.2 (i + 1) = ((prpS x6.2 i).1 ++ [⟨y.1, z.1⟩], z.2) := by rw [prpS, ← hy, ← hz]
  have hB2' : Buf C53 70 2 (.slice ad2 (i + 1) c2) (i + 1) ((prpS x6.2 (i + 1)).1.flatMap Prp.lay) := by
   rw [hps, List.flatMap_append]; exact hB53
  exact ⟨_, by omega, i + 1, B2, C53, _, rfl, by omega, by rw [hps]; exact hB2, hB2', S.only (Bs := [B2, [(b, _)], C53]) sZ, E.keep (kE4 rfl rfl rfl rfl)⟩
 ·replace hb := Nrm.nrm hb
  refine wp_exit ?_
  refine zAp ?_; clear hK K
  refine zAp ?_
  refine zBr ?_
  refine end0 E rfl ?_
  obtain rfl : i = x6.1 := by omega
  rw [htk]
  subst hr1
  exact ⟨_, rfl, A', D1, v, nilv, nilv, hA', ⟨D1, [], [], by simp, by show Buf D1 _ 2 v (prpS x6.2 x6.1).1.length _; rw [prpS_len]; exact hB, Buf.nil _ _, Buf.nil _ _⟩, S.tr⟩
omit hA H in
theorem takF_fn {k : Int} (h : inK k) : ∃ fn : Func, Tryz.prog.funcs[takF k]? = some fn ∧ fn.body.isSome = true ∧ (fn.name == "runtime.NumGoroutine") = false := by
 rcases zEm h with rfl | rfl | rfl | rfl | rfl | rfl | rfl
 ·exact ⟨_, Tryz.func52, rfl, by kernel_rfl⟩
 ·exact ⟨_, Tryz.func95, rfl, by kernel_rfl⟩
 ·exact ⟨_, Tryz.func59, rfl, by kernel_rfl⟩
 ·exact ⟨_, Tryz.func63, rfl, by kernel_rfl⟩
 ·exact ⟨_, Tryz.func67, rfl, by kernel_rfl⟩
 ·exact ⟨_, Tryz.func101, rfl, by kernel_rfl⟩
 ·exact ⟨_, Tryz.func101, rfl, by kernel_rfl⟩
theorem takK_ret (hk : inK k) : Ret Tryz.prog (takF k) #[ptr p, ptr b] w0 fun _ w' => ∃ A' D pv kv dv, RdC 108 p (zEj k s).2 A' ∧ zIx D (zEj k s).1 pv kv dv ∧ Trs w0 w' [A, [(b, cel ((zCy k).cells nilv nilv nilv) 26)]] [A', [(b, cel ((zEj k s).1.cells pv kv dv) 26)], D] := by
 rcases zEm hk with rfl | rfl | rfl | rfl | rfl | rfl | rfl
 ·exact take1_ret p b 1 s A hA w0 H
 ·exact take2_ret p b 2 s A hA w0 H
 ·exact take3_ret p b 3 s A hA w0 H
 ·exact take4_ret p b 4 s A hA w0 H
 ·exact take5_ret p b 5 s A hA w0 H
 ·exact take6_ret p b 6 s A hA w0 H
 ·exact take6_ret p b 7 s A hA w0 H
end
end Go.Proofs.YtbogecljkaimdaaGreatDoor
namespace Go.Sl
section
variable {α : Type} {T : TypeId} {s : Nat} {lay : List α → List Value}
def Inn (T : TypeId) (s : Nat) (lay : List α → List Value) : zAl → List Value → List (List α) → Prop
 | D, [], [] => D = []
 | D, v :: vs, x :: xs => ∃ C D', D = C ++ D' ∧ Buf C T s v x.length (lay x) ∧ Inn T s lay D' vs xs
 | _, _, _ => False
theorem Inn.len : ∀ {D : zAl} {vs : List Value} {xs : List (List α)}, Inn T s lay D vs xs → vs.length = xs.length
 | _, [], [], _ => rfl
 | _, _ :: _, _ :: _, ⟨_, _, _, _, h⟩ => by simp [h.len]
 | _, [], _ :: _, h => h.elim
 | _, _ :: _, [], h => h.elim
theorem Inn.nil : Inn T s lay [] [] [] := rfl
theorem Inn.one : ∀ {D : zAl} {vs : List Value} {xs : List (List α)}, Inn T s lay D vs xs → ∀ u ∈ vs, u.oneCell' = true
 | _, [], [], _ => fun u hu => by cases hu
 | _, _ :: _, _ :: _, ⟨_, _, _, hC, h⟩ => fun u hu => by
  rcases List.mem_cons.1 hu with rfl | hu
  ·obtain ⟨ad, c, rfl⟩ := hC.slice; rfl
  ·exact h.one u hu
 | _, [], _ :: _, h => h.elim
 | _, _ :: _, [], h => h.elim
theorem Inn.at : ∀ {D : zAl} {vs : List Value} {xs : List (List α)}, Inn T s lay D vs xs → ∀ {i : Nat} (hi : i < xs.length),
  ∃ A C B v, D = A ++ (C ++ B) ∧ vs[i]? = some v ∧ Buf C T s v xs[i].length (lay xs[i]) ∧ ∀ C' v' x', Buf C' T s v' x'.length (lay x') → Inn T s lay (A ++ (C' ++ B)) (vs.set i v') (xs.set i x')
 | _, v :: vs, x :: xs, ⟨C, D', e, hC, h⟩, 0, _ => ⟨[], C, D', v, by simpa using e, rfl, hC, fun C' v' x' hC' => ⟨C', D', by simp, hC', h⟩⟩
 | _, v :: vs, x :: xs, ⟨C, D', e, hC, h⟩, i + 1, hi => by
  obtain ⟨A, C2, B, v2, e2, hv, hB, hk⟩ := h.at (i := i) (by simpa using hi)
  refine ⟨C ++ A, C2, B, v2, by rw [e, e2, List.append_assoc], hv, hB, fun C' v' x' hC' => ?_⟩
  exact ⟨C, A ++ (C' ++ B), by rw [List.append_assoc], hC, hk C' v' x' hC'⟩
 | _, [], [], _, _, hi => absurd hi (by simp)
 | _, [], _ :: _, h, _, _ => h.elim
 | _, _ :: _, [], h, _, _ => h.elim
theorem Inn.rd {D : zAl} {vs : List Value} {xs : List (List α)} (h : Inn T s lay D vs xs) {i : Nat} (hi : i < xs.length) : ∃ v, vs[i]? = some v ∧ Rd D s v xs[i].length (lay xs[i]) := by
 obtain ⟨A, C, B, v, rfl, hv, hC, -⟩ := h.at hi
 exact ⟨v, hv, hC.rd.sub fun x hx => by simp [hx]⟩
end
section
variable {w0 w : World} {As Ls : List zAl} {A B C : zAl}
end
theorem Rd.bytes {C : zAl} {ad : Option Addr} {c : Nat} {l : List UInt8} (h : Rd C 1 (.slice ad l.length c) l.length (byt l)) {lo hi mx : Nat} (h1 : lo ≤ hi) (h2 : hi ≤ l.length) (h3 : hi ≤ mx) :
  Rd C 1 (sliced ad lo hi mx 1) ((l.drop lo).take (hi - lo)).length (byt ((l.drop lo).take (hi - lo))) := by
 have h4 := h.piece rfl h1 h2 h3
 rw [Nat.mul_one, Nat.mul_one, zGd, zEs] at h4
 rwa [List.length_take, List.length_drop, Nat.min_eq_left oZ]
end Go.Sl
namespace Go.Proofs.YtbogecljkaimdaaGreatDoor
open Go.Sl
set_option maxRecDepth 10000
theorem equal_ret (D1 D2 : zAl) (v1 v2 : Value) (xs ys : List UInt8) (h1 : Rd D1 1 v1 xs.length (byt xs)) (h2 : Rd D2 1 v2 ys.length (byt ys)) (hl : xs.length ≤ 140737488355328) (As : List zAl) (m1 : D1 ∈ As) (m2 : D2 ∈ As) (w0 : World) (H : Hp w0 As) :
  Ret Tryz.prog 45 #[v1, v2] w0 fun u w' => u = .bool (decide (xs = ys)) ∧ Trs w0 w' As As := by
 have S := St.begin H
 obtain ⟨a1, c1, rfl⟩ := h1.slice
 obtain ⟨a2, c2, rfl⟩ := h2.slice
 refine zBt 26 Tryz.func45 rfl rfl dZ ?_; intro a E
 refine wp_seq_k ?_; intro K hK
 refine zAa ?_
 refine zd E ?_; clear E a; intro a E
 refine wpList_nil ?_
 refine zAb hK ?_; clear hK K
 iterate 2 (refine wp_seq_k ?_; intro K hK)
 refine zAa ?_
 iterate 5 (refine zd E ?_; clear E a; intro a E)
 refine wpList_nil ?_
 refine zAb hK ?_; clear hK K
 refine zAs E rfl (fun hb => ?_) (fun hb => ?_)
 ·replace hb := Nrm.nrm hb
  refine wp_seq_k ?_; intro K hK
  refine zAa ?_
  refine zd E ?_; clear E a; intro a E
  refine wpList_nil ?_
  refine zAb hK ?_; clear hK K
  refine wp_ret ?_
  refine zAn ?_; clear hK K
  refine ret1 E rfl rfl ?_
  exact ⟨_, rfl, by rw [decide_eq_false (fun e => hb (by rw [e]))], S.tr⟩
 ·replace hb := Nrm.nrm hb
  have hlen : xs.length = ys.length := oZ
  refine wp_skip ?_
  refine zAb hK ?_; clear hK K
  iterate 2 (refine wp_seq_k ?_; intro K hK)
  refine zAa ?_
  iterate 3 (refine zd E ?_; clear E a; intro a E)
  refine wpList_nil ?_
  refine zAb hK ?_; clear hK K
  refine wp_block ?_
  refine wp_loop_ghost (fun (m : Nat) (a : Act) (w' : World) => ∃ i : Nat, m = xs.length - i ∧ i ≤ xs.length ∧ xs.take i = ys.take i ∧ St w0 As w' As ∧ Fr a 26 [(0, .slice a1 xs.length c1), (1, .slice a2 ys.length c2), (12, .int .i64 xs.length), (13, .int .i64 i)]) (xs.length) ?_ ?_
  ·exact ⟨0, by omega, by omega, rfl, S, E.keep (kE4 rfl rfl rfl rfl)⟩
  clear E; clear a; (try clear S); rintro m a w ⟨i, rfl, hi, he, S, E⟩
  refine wp_seq_k ?_; intro K hK
  refine zAa ?_
  refine zd E ?_; clear E a; intro a E
  refine wpList_nil ?_
  refine zAb hK ?_; clear hK K
  refine wp_seq_k ?_; intro K hK
  refine zAs E rfl (fun hb => ?_) (fun hb => ?_)
  ·replace hb := Nrm.nrm hb
   refine wp_skip ?_
   refine zAb hK ?_; clear hK K
   refine wp_seq_k ?_; intro K hK
   refine wp_block ?_
   refine wp_seq_k ?_; intro K hK
   have hil : i < xs.length := by omega
   have hil2 : i < ys.length := by omega
   obtain ⟨b1, o1, rfl⟩ := h1.addr oZ
   obtain ⟨b2, o2, rfl⟩ := h2.addr oZ
   refine zAa ?_
   iterate 2 (refine zd E ?_; clear E a; intro a E)
   refine wpList_nil ?_
   refine zAb hK ?_; clear hK K
   refine wp_seq_k ?_; intro K hK
   refine zCn S (.ofL [(0, 0), (1, 0), (2, 0), (3, 0), (4, 0), (5, 0), (6, 0), (7, 0), (8, 0)]) [D1, D2] (fun h => h.sub (by first | (simp; done) | (simp +contextual; done) | (simp [*]; done))) yZ yZ ?_
   clear S; intro w S
   iterate 2 (refine zmd E ?_; clear E a; intro a E)
   refine zm E rfl (fun w h => by first | exact zAw E rfl rfl rfl rfl rfl rfl oZ | exact zBe E rfl rfl rfl rfl rfl rfl oZ | exact zAu E rfl rfl rfl rfl rfl rfl oZ) ?_; clear E a; intro a E
   refine zm E rfl (fun w h => zBd E rfl rfl rfl (h1.byte (h.at (by simp)) hil)) ?_; clear E a; intro a E
   iterate 2 (refine zmd E ?_; clear E a; intro a E)
   refine zm E rfl (fun w h => by first | exact zAw E rfl rfl rfl rfl rfl rfl oZ | exact zBe E rfl rfl rfl rfl rfl rfl oZ | exact zAu E rfl rfl rfl rfl rfl rfl oZ) ?_; clear E a; intro a E
   refine zm E rfl (fun w h => zBd E rfl rfl rfl (h2.byte (h.at (by simp)) hil2)) ?_; clear E a; intro a E
   refine zmd E ?_; clear E a; intro a E
   refine zBi ?_
   refine zAb hK ?_; clear hK K
   refine zAs E rfl (fun hb => ?_) (fun hb => ?_)
   ·replace hb := Nrm.nrm hb
    refine wp_seq_k ?_; intro K hK
    refine zAa ?_
    refine zd E ?_; clear E a; intro a E
    refine wpList_nil ?_
    refine zAb hK ?_; clear hK K
    refine wp_ret ?_
    refine zBw ?_
    refine zAn ?_; clear hK K
    refine zAn ?_
    refine zBw ?_
    refine zAn ?_; clear hK K
    refine ret1 E rfl rfl ?_
    refine ⟨_, rfl, ?_, S.tr⟩
    rw [decide_eq_false]
    rintro rfl
    exact hb rfl
   ·replace hb := Nrm.nrm hb
    refine wp_skip ?_
    refine zAr ?_
    refine zAb hK ?_; clear hK K
    refine zAa ?_
    refine zp E (zBc E rfl rfl rfl (by first | exact zBq (y := 1) oZ | exact w_in oZ | exact zBb oZ | exact rfl)) ?_; clear E a; intro a E
    refine zd E ?_; clear E a; intro a E
    refine wpList_nil ?_
    refine zAy ?_
    refine ⟨_, ?_, i + 1, rfl, by omega, ?_, S, E.keep (kE4 rfl rfl rfl rfl)⟩
    ·omega
    ·have hx : xs[i] = ys[i] := UInt8.toNat_inj.1 oZ
     rw [← List.take_append_getElem hil, ← List.take_append_getElem hil2, he, hx]
  ·replace hb := Nrm.nrm hb
   refine wp_exit ?_
   refine zAp ?_; clear hK K
   refine zAp ?_
   refine zBr ?_
   refine zAb hK ?_; clear hK K
   refine wp_seq_k ?_; intro K hK
   refine zAa ?_
   refine zd E ?_; clear E a; intro a E
   refine wpList_nil ?_
   refine zAb hK ?_; clear hK K
   refine wp_ret ?_
   refine ret1 E rfl rfl ?_
   obtain rfl : i = xs.length := by omega
   refine ⟨_, rfl, ?_, S.tr⟩
   rw [decide_eq_true]
   rw [List.take_length] at he
   rw [he, List.take_of_length_le oZ]
theorem zGk (e : Int) (As : List zAl) (w0 : World) (H : Hp w0 As) :
  Ret Tryz.prog 42 #[.int .i64 e] w0 fun u w' => u = .tuple #[.agg #[.int .i64 0, str [], .int .i64 0, .int .i64 0, .int .i64 0, .int .i64 0, str [], nilv, .int .i64 0, .int .i64 0, .int .i64 0, nilv, nilv], .int .i64 0, .agg #[.int .u64 0, .int .u64 0, .int .u64 0, .int .u64 0], .int .i64 e] ∧ Trs w0 w' As As := by
 have S := St.begin H
 refine zCd 9 Tryz.func42 rfl rfl dZ ?_; intro a E
 refine wp_seq_k ?_; intro K hK
 refine zAa ?_
 refine zAg rfl (zBf E S rfl rfl dZ rfl rfl rfl ?_); clear E S a; intro a w b2 E S
 refine zd E ?_; clear E a; intro a E
 refine zAg rfl (zBf E S rfl rfl dZ rfl rfl rfl ?_); clear E S a; intro a w b4 E S
 refine zd E ?_; clear E a; intro a E
 refine wpList_nil ?_
 refine zAb hK ?_; clear hK K
 refine wp_seq_k ?_; intro K hK
 refine zAa ?_
 refine zp E (zBp (cells := [_, _, _, _, _, _, _, _, _, _, _, _, _]) E rfl rfl rfl) ?_; clear E a; intro a E
 refine zp E (zBp (cells := [_, _, _, _]) E rfl rfl rfl) ?_; clear E a; intro a E
 refine zd E ?_; clear E a; intro a E
 refine zAg rfl (zAq E S rfl rfl rfl rfl (by simp [Value.oneCell']) rfl pZ (by simp) ?_); clear E S a; intro a w E S; simp only [List.take_succ_cons, List.take_zero, List.drop_succ_cons, List.drop_zero, List.cons_append, List.nil_append, List.append_nil, List.length_cons, List.length_nil, Nat.zero_add, Nat.add_zero] at S
 refine zd E ?_; clear E a; intro a E
 refine zAg rfl (zAq E S rfl rfl rfl rfl (by simp [Value.oneCell']) rfl pZ (by simp) ?_); clear E S a; intro a w E S; simp only [List.take_succ_cons, List.take_zero, List.drop_succ_cons, List.drop_zero, List.cons_append, List.nil_append, List.append_nil, List.length_cons, List.length_nil, Nat.zero_add, Nat.add_zero] at S
 refine zd E ?_; clear E a; intro a E
 refine wpList_nil ?_
 refine zAb hK ?_; clear hK K
 refine wp_ret ?_
 refine zDe E rfl rfl rfl rfl rfl (S.get pZ) rfl (S.get pZ) rfl ?_
 exact ⟨_, rfl, rfl, S.tail2.tr⟩
instance (k : Int) : Decidable (inK k) := by unfold inK; infer_instance
def zCs (b : List UInt8) : Nat := zBv (b.take 1)
def zBm (b : List UInt8) : Nat := zBv ((b.drop 1).take 4)
def zIg (e : Int) : Int × Rec × Nat × Fs := (e, zCy 0, 0, zFx)
def ownD (b : List UInt8) (s : Fs) : Fs := shaF (zEf s ++ b.take (5 + zBm b))
def zEk (b : List UInt8) : List UInt8 := (b.drop 5).take (zBm b)
noncomputable def decR (b : List UInt8) (s : Fs) : Int × Rec × Nat × Fs :=
 if b.length < 5 then zIg 10
 else if ¬ inK (zCs b) ∨ 2048 < zBm b then zIg 200
 else if b.length < 37 + zBm b then zIg 10
 else if zEf (ownD b s) ≠ (b.drop (5 + zBm b)).take 32 then zIg 201
 else if (zEj (zCs b) ⟨zEk b, 0, 0⟩).2.done ≠ 0 ∨ ckB (zEj (zCs b) ⟨zEk b, 0, 0⟩).1 = false then zIg 200
 else (0, (zEj (zCs b) ⟨zEk b, 0, 0⟩).1, 37 + zBm b, ownD b s)
theorem kindOf_lt (b : List UInt8) : zCs b < 256 := by
 have := numOf_cut b 0 1
 rwa [List.drop_zero] at this
theorem sizeOf_lt (b : List UInt8) : zBm b < 4294967296 := numOf_cut b 1 4
section
variable {b : List UInt8} {s : Fs}
theorem dec_1 (h : b.length < 5) : decR b s = zIg 10 := by unfold decR; rw [if_pos h]
theorem dec_2 (h5 : 5 ≤ b.length) (h : ¬ inK (zCs b) ∨ 2048 < zBm b) : decR b s = zIg 200 := by
 unfold decR; rw [if_neg oZ, if_pos h]
variable (h5 : 5 ≤ b.length) (hk : inK (zCs b)) (hn : zBm b ≤ 2048)
include h5 hk hn
theorem dec_3 (h : b.length < 37 + zBm b) : decR b s = zIg 10 := by
 unfold decR; rw [if_neg oZ, if_neg (by rintro (q | q); exact q hk; omega), if_pos h]
theorem dec_4 (h7 : 37 + zBm b ≤ b.length) (h : zEf (ownD b s) ≠ (b.drop (5 + zBm b)).take 32) : decR b s = zIg 201 := by
 unfold decR; rw [if_neg oZ, if_neg (by rintro (q | q); exact q hk; omega), if_neg oZ, if_pos h]
theorem dec_5 (h7 : 37 + zBm b ≤ b.length) (h : zEf (ownD b s) = (b.drop (5 + zBm b)).take 32) (h8 : (zEj (zCs b) ⟨zEk b, 0, 0⟩).2.done ≠ 0 ∨ ckB (zEj (zCs b) ⟨zEk b, 0, 0⟩).1 = false) : decR b s = zIg 200 := by
 unfold decR; rw [if_neg oZ, if_neg (by rintro (q | q); exact q hk; omega), if_neg oZ, if_neg (by simpa using h), if_pos h8]
theorem dec_6 (h7 : 37 + zBm b ≤ b.length) (h : zEf (ownD b s) = (b.drop (5 + zBm b)).take 32) (h8 : (zEj (zCs b) ⟨zEk b, 0, 0⟩).2.done = 0) (h9 : ckB (zEj (zCs b) ⟨zEk b, 0, 0⟩).1 = true) :
  decR b s = (0, (zEj (zCs b) ⟨zEk b, 0, 0⟩).1, 37 + zBm b, ownD b s) := by
 unfold decR; rw [if_neg oZ, if_neg (by rintro (q | q); exact q hk; omega), if_neg oZ, if_neg (by simpa using h), if_neg (by rintro (q | q); exact q h8; rw [h9] at q; cases q)]
end
theorem text_len (s : Rdr) (m : Int) : (s.text m).1.length ≤ 65536 := by
 have h2 : zBv (s.cut 2 0) < 65536 := Nat.lt_of_lt_of_le (zEu _) (Nat.pow_le_pow_right (n := 256) (j := 2) oZ (by simp only [Rdr.cut, List.length_take]; omega))
 unfold Rdr.text
 repeat' split
 all_goals first | simp | skip
 simp only [Rdr.cut, List.length_take] at *
 omega
theorem bytes_len (s : Rdr) (k : Nat) : (s.bytes k).1.length ≤ k := by
 unfold Rdr.bytes
 repeat' split
 all_goals first | simp | skip
 simp only [Rdr.cut, List.length_take] at *
 omega
theorem prpS_len2 (s : Rdr) (i : Nat) : ∀ p ∈ (prpS s i).1, p.name.length ≤ 1048576 ∧ p.value.length ≤ 1048576 := by
 induction i with
 | zero => intro p hp; simp [prpS] at hp
 | succ i ih =>
  intro p hp
  rw [prpS] at hp
  rcases List.mem_append.1 hp with hp | hp
  ·exact ih p hp
  ·obtain rfl := List.mem_singleton.1 hp
   have h1 := text_len (prpS s i).2 24
   have h2 := text_len ((prpS s i).2.text 24).2 64
   exact ⟨by simp only; omega, by simp only; omega⟩
theorem keepT_len (s : Rdr) (size : Nat) (less : Int) : (zFj s size less).1.length ≤ 241 := by
 rw [zFj, zKf]; omega
theorem num1_le (s : Rdr) : (s.num 1).1 ≤ 1048576 := Nat.le_trans (Nat.le_of_lt (zCk s 1)) dZ
theorem num2_le (s : Rdr) : (s.num 2).1 ≤ 1048576 := Nat.le_trans (Nat.le_of_lt (zCk s 2)) dZ
theorem text_le (s : Rdr) (m : Int) : (s.text m).1.length ≤ 1048576 := Nat.le_trans (text_len s m) dZ
theorem keepT_le (s : Rdr) (size : Nat) (less : Int) : (zFj s size less).1.length ≤ 1048576 := Nat.le_trans (keepT_len s size less) dZ
theorem bytes_le (s t : Rdr) : (t.bytes (s.num 2).1).1.length ≤ 1048576 := Nat.le_trans (bytes_len t _) (num2_le s)
theorem prpS_le (s t : Rdr) : (prpS t (s.num 1).1).1.length ≤ 1048576 := by rw [prpS_len]; exact num1_le s
theorem zCj {α : Type} : ([] : List α).length ≤ 1048576 := Nat.zero_le _
theorem zGv : ∀ p ∈ ([] : List Prp), p.name.length ≤ 1048576 ∧ p.value.length ≤ 1048576 := fun _ h => nomatch h
theorem take1_sml (k : Int) (s : Rdr) : Sml (take1 k s).1 := ⟨text_le s 24, zCj, zCj, zGv, zCj, zCj⟩
theorem take2_sml (k : Int) (s : Rdr) : Sml (zHs k s).1 := by
 unfold zHs
 extract_lets n a b c d t m p
 have hp : p.1.length ≤ 1048576 := prpS_le t.2 m.2
 have hq : ∀ q ∈ p.1, q.name.length ≤ 1048576 ∧ q.value.length ≤ 1048576 := prpS_len2 m.2 m.1
 have h1 : n.1.length ≤ 1048576 := text_le s 240
 have h2 : t.1.length ≤ 1048576 := text_le d.2 24
 clear_value n a b c d t p
 exact ⟨h1, h2, hp, hq, zCj, zCj⟩
theorem take3_sml (k : Int) (s : Rdr) : Sml (take3 k s).1 := ⟨zCj, zCj, zCj, zGv, keepT_le s 4 0, zCj⟩
theorem take4_sml (k : Int) (s : Rdr) : Sml (take4 k s).1 := ⟨zCj, zCj, zCj, zGv, keepT_le _ 2 1, zCj⟩
theorem take5_sml (k : Int) (s : Rdr) : Sml (take5 k s).1 := ⟨zCj, zCj, zCj, zGv, zCj, bytes_le _ _⟩
theorem take6_sml (k : Int) (s : Rdr) : Sml (take6 k s).1 := ⟨zCj, zCj, zCj, zGv, zCj, zCj⟩
theorem zKg {k : Int} (h : inK k) (s : Rdr) : Sml (zEj k s).1 := by
 rcases zEm h with rfl | rfl | rfl | rfl | rfl | rfl | rfl
 ·exact take1_sml 1 s
 ·exact take2_sml 2 s
 ·exact take3_sml 3 s
 ·exact take4_sml 4 s
 ·exact take5_sml 5 s
 ·exact take6_sml 6 s
 ·exact take6_sml 7 s
end Go.Proofs.YtbogecljkaimdaaGreatDoor
namespace Go.Proofs.YtbogecljkaimdaaGreatDoor
open Go.Sl
set_option maxRecDepth 10000
def decP (x : Int × Rec × Nat × Fs) (As : List zAl) (w0 : World) (u : Value) (w' : World) : Prop :=
 ∃ X pv kv dv, u = .tuple #[.agg (x.2.1.cells pv kv dv).toArray, .int .i64 x.2.2.1, x.2.2.2.agg, .int .i64 x.1] ∧ zIx X x.2.1 pv kv dv ∧ Trs w0 w' As (X :: As)
theorem recO_none : zIx [] (zCy 0) nilv nilv nilv := ⟨[], [], [], rfl, Buf.nil _ _, Buf.nil _ _, Buf.nil _ _⟩
theorem zEl {b : List UInt8} {s : Fs} {e : Int} (h : decR b s = zIg e) {As : List zAl} {w0 w' : World} (T : Trs w0 w' As ([] :: As)) : decP (decR b s) As w0 (.tuple #[.agg #[.int .i64 0, str [], .int .i64 0, .int .i64 0, .int .i64 0, .int .i64 0, str [], nilv, .int .i64 0, .int .i64 0, .int .i64 0, nilv, nilv], .int .i64 0, .agg #[.int .u64 0, .int .u64 0, .int .u64 0, .int .u64 0], .int .i64 e]) w' := by
 rw [h]
 exact ⟨[], nilv, nilv, nilv, rfl, recO_none, T⟩
set_option maxHeartbeats 1000000 in
theorem zIn (D : zAl) (ad : Option Addr) (c : Nat) (b : List UInt8) (hD : Rd D 1 (.slice ad b.length c) b.length (byt b)) (hcap : b.length ≤ c) (hbl : b.length ≤ 140737488351300) (s : Fs) (R' : List zAl) (hG : Tab (D :: R') 2 shaK) (w0 : World) (H : Hp w0 (D :: R')) :
  Ret Tryz.prog 19 #[.slice ad b.length c, s.agg] w0 (decP (decR b s) (D :: R') w0) := by
 have S := St.begin H
 refine zBt 116 Tryz.func19 rfl rfl dZ ?_; intro a E
 refine wp_seq_k ?_; intro K hK
 refine zAa ?_
 refine zAg rfl (zBx E S rfl rfl dZ rfl rfl ?_); clear E S a; intro a w b3 E S
 refine zAg rfl (zBf E S rfl rfl dZ rfl rfl rfl ?_); clear E S a; intro a w b4 E S
 refine zd E ?_; clear E a; intro a E
 refine zAg rfl (zBf E S rfl rfl dZ rfl rfl rfl ?_); clear E S a; intro a w b6 E S
 refine zd E ?_; clear E a; intro a E
 refine wpList_nil ?_
 refine zAb hK ?_; clear hK K
 refine wp_seq_k ?_; intro K hK
 refine zAa ?_
 refine zd E ?_; clear E a; intro a E
 refine wpList_nil ?_
 refine zAb hK ?_; clear hK K
 iterate 2 (refine wp_seq_k ?_; intro K hK)
 refine zAa ?_
 iterate 3 (refine zd E ?_; clear E a; intro a E)
 refine wpList_nil ?_
 refine zAb hK ?_; clear hK K
 refine zAs E rfl (fun hb => ?_) (fun hb => ?_)
 ·replace hb := Nrm.nrm hb
  refine wp_seq_k ?_; intro K hK
  refine zAa ?_
  refine zd E ?_; clear E a; intro a E
  refine zCh E rfl rfl dZ rfl rfl Tryz.func42 rfl yZ rfl (zGk 10 _ _ S.hp) ?_
  rintro v22 w ⟨rfl, hT⟩; clear E a; intro a E
  have S := S.all hT
  iterate 4 (refine zd E ?_; clear E a; intro a E)
  refine zAg rfl (zAq E S rfl rfl rfl rfl (by simp [Value.oneCell']) rfl pZ (by simp) ?_); clear E S a; intro a w E S; simp only [List.take_succ_cons, List.take_zero, List.drop_succ_cons, List.drop_zero, List.cons_append, List.nil_append, List.append_nil, List.length_cons, List.length_nil, Nat.zero_add, Nat.add_zero] at S
  refine zd E ?_; clear E a; intro a E
  refine zAg rfl (zAq E S rfl rfl rfl rfl (by simp [Value.oneCell']) rfl pZ (by simp) ?_); clear E S a; intro a w E S; simp only [List.take_succ_cons, List.take_zero, List.drop_succ_cons, List.drop_zero, List.cons_append, List.nil_append, List.append_nil, List.length_cons, List.length_nil, Nat.zero_add, Nat.add_zero] at S
  refine zd E ?_; clear E a; intro a E
  refine wpList_nil ?_
  refine zAb hK ?_; clear hK K
  refine wp_ret ?_
  refine zAn ?_; clear hK K
  refine zDe E rfl rfl rfl rfl rfl (S.get pZ) rfl (S.get pZ) rfl ?_
  exact ⟨_, rfl, zEl (dec_1 oZ) ((St.drops0 [_, _, _] S).addNil).tr⟩
 ·replace hb := Nrm.nrm hb
  refine wp_skip ?_
  refine zAb hK ?_; clear hK K
  refine wp_seq_k ?_; intro K hK
  have h5 : 5 ≤ b.length := by omega
  refine zAa ?_
  refine zd E ?_; clear E a; intro a E
  refine zp E (zEy (hi := 5) (s := 1) E rfl rfl rfl rfl rfl rfl oZ) ?_; clear E a; intro a E
  have hR5 := hD.bytes (lo := 0) (hi := 5) (mx := c) oZ oZ oZ
  rw [List.drop_zero, Nat.sub_zero] at hR5
  have hl5 : (b.take 5).length = 5 := by rw [List.length_take]; omega
  refine zAh E rfl rfl dZ rfl Tryz.func43 rfl yZ rfl (zKs D _ (b.take 5) _ hR5 (S.hp.sel sZ) oZ) ?_
  rintro v29 w ⟨p, A, rfl, hA, hT⟩; clear E a; intro a E
  have S := S.call2 sZ hT
  refine zd E ?_; clear E a; intro a E
  refine wpList_nil ?_
  refine zAb hK ?_; clear hK K
  refine wp_seq_k ?_; intro K hK
  refine zAa ?_
  refine zd E ?_; clear E a; intro a E
  refine zAh E rfl rfl dZ rfl Tryz.func44 rfl yZ rfl (rnum_fit p (b.take 5) 0 A _ hA (S.hp.sel sZ) 1 oZ oZ oZ) ?_
  rintro v31 w ⟨A1, rfl, hA1, hT⟩; clear E a; intro a E
  have S := S.call1 sZ hT
  have hk1 : ((b.take 5).drop 0).take 1 = b.take 1 := by rw [List.drop_zero, List.take_take]; rfl
  have hkk : zBv (((b.take 5).drop 0).take 1) = zCs b := by rw [hk1]; rfl
  rw [hkk] at E
  obtain ⟨k, hk⟩ : ∃ k, k = zCs b := ⟨_, rfl⟩
  rw [← hk] at E
  have hklt : k < 256 := by rw [hk]; exact kindOf_lt b
  refine zp E (by first | exact zAo E rfl rfl rfl rfl (by first | exact wu8 _ | exact zCz oZ | exact zCe oZ | exact w_in oZ | exact zBb oZ | exact rfl) | exact zBh E rfl rfl rfl rfl rfl (by assumption) (S.stab.at (by simp))) ?_; clear E a; intro a E
  refine zd E ?_; clear E a; intro a E
  refine zAh E rfl rfl dZ rfl Tryz.func44 rfl yZ rfl (rnum_fit p (b.take 5) 1 A1 _ hA1 (S.hp.sel sZ) 4 oZ oZ oZ) ?_
  rintro v34 w ⟨A2, rfl, hA2, hT⟩; clear E a; intro a E
  have S := S.call1 sZ hT
  have hss : zBv (((b.take 5).drop 1).take 4) = zBm b := by rw [List.drop_take, List.take_take]; rfl
  rw [hss] at E
  obtain ⟨n, hn⟩ : ∃ n, n = zBm b := ⟨_, rfl⟩
  rw [← hn] at E
  have hnlt : n < 4294967296 := by rw [hn]; exact sizeOf_lt b
  refine zp E (by first | exact zAo E rfl rfl rfl rfl (by first | exact wu8 _ | exact zCz oZ | exact zCe oZ | exact w_in oZ | exact zBb oZ | exact rfl) | exact zBh E rfl rfl rfl rfl rfl (by assumption) (S.stab.at (by simp))) ?_; clear E a; intro a E
  iterate 2 (refine zd E ?_; clear E a; intro a E)
  refine wpList_nil ?_
  refine zAb hK ?_; clear hK K
  refine wp_seq_k ?_; intro K hK
  refine zAa ?_
  refine zAh E rfl rfl dZ rfl Tryz.func25 rfl yZ rfl (zJd _ _ S.hp) ?_
  rintro v37 w ⟨g, rfl, hT⟩; clear E a; intro a E
  have S := S.all hT
  refine zd E ?_; clear E a; intro a E
  rcases Classical.em (inK (k : Int)) with hin | hin
  ·skip
   obtain ⟨ix, hrow⟩ := row_is hin
   refine zp E (zFn (v := .agg [fnv (mayF k), fnv (layF k), fnv (takF k)].toArray) E rfl rfl rfl rfl rfl (S.get pZ) hrow) ?_; clear E a; intro a E
   iterate 3 (refine zd E ?_; clear E a; intro a E)
   refine zAg rfl (zBf E S rfl rfl dZ rfl rfl rfl ?_); clear E S a; intro a w b12 E S
   refine zAg rfl (zAq E S rfl rfl rfl rfl (by simp [Value.oneCell']) rfl pZ (by simp) ?_); clear E S a; intro a w E S; simp only [List.take_succ_cons, List.take_zero, List.drop_succ_cons, List.drop_zero, List.cons_append, List.nil_append, List.append_nil, List.length_cons, List.length_nil, Nat.zero_add, Nat.add_zero] at S
   refine zd E ?_; clear E a; intro a E
   refine wpList_nil ?_
   refine zAb hK ?_; clear hK K
   iterate 2 (refine wp_seq_k ?_; intro K hK)
   replace E := E.keep (e' := [(0, _), (3, _), (4, _), (5, _), (6, _), (7, _), (8, _), (10, _), (11, _), (12, _), (13, _)]) (kE11 rfl rfl rfl rfl rfl rfl rfl rfl rfl rfl rfl)
   refine zAa ?_
   iterate 3 (refine zd E ?_; clear E a; intro a E)
   refine zJn E (t := 44) rfl ((by rfl)) (fun hb44 => ?_)
   iterate 2 (refine zyd E hb44 ?_; clear E a; intro a E)
   refine zp E (zAe E rfl rfl hb44 rfl) ?_; clear E a; intro a E
   refine wpList_nil ?_
   refine zAb hK ?_; clear hK K
   refine zAs E rfl (fun hb => ?_) (fun hb => ?_)
   ·replace hb := Nrm.nrm hb
    refine wp_seq_k ?_; intro K hK
    refine zAa ?_
    refine zd E ?_; clear E a; intro a E
    refine zCh E rfl rfl dZ rfl rfl Tryz.func42 rfl yZ rfl (zGk 200 _ _ S.hp) ?_
    rintro v49 w ⟨rfl, hT⟩; clear E a; intro a E
    have S := S.all hT
    iterate 4 (refine zd E ?_; clear E a; intro a E)
    refine zAg rfl (zAq E S rfl rfl rfl rfl (by simp [Value.oneCell']) rfl pZ (by simp) ?_); clear E S a; intro a w E S; simp only [List.take_succ_cons, List.take_zero, List.drop_succ_cons, List.drop_zero, List.cons_append, List.nil_append, List.append_nil, List.length_cons, List.length_nil, Nat.zero_add, Nat.add_zero] at S
    refine zd E ?_; clear E a; intro a E
    refine zAg rfl (zAq E S rfl rfl rfl rfl (by simp [Value.oneCell']) rfl pZ (by simp) ?_); clear E S a; intro a w E S; simp only [List.take_succ_cons, List.take_zero, List.drop_succ_cons, List.drop_zero, List.cons_append, List.nil_append, List.append_nil, List.length_cons, List.length_nil, Nat.zero_add, Nat.add_zero] at S
    refine zd E ?_; clear E a; intro a E
    refine wpList_nil ?_
    refine zAb hK ?_; clear hK K
    refine wp_ret ?_
    refine zAn ?_; clear hK K
    refine zDe E rfl rfl rfl rfl rfl (S.get pZ) rfl (S.get pZ) rfl ?_
    exact ⟨_, rfl, zEl (dec_2 h5 (by rw [← hk, ← hn]; first | exact .inl hin | exact .inr oZ)) ((St.drops [_, _, _, _, _, _] (S.front1 (A := D) pZ)).addNil.tr)⟩
   ·replace hb := Nrm.nrm hb
    refine wp_skip ?_
    refine zAb hK ?_; clear hK K
    refine wp_seq_k ?_; intro K hK
    have hn2 : n ≤ 2048 := by omega
    have S := St.drops [_, _] S
    refine zAa ?_
    refine zd E ?_; clear E a; intro a E
    refine zp E (zBc E rfl rfl rfl (by first | exact zHq (x := 5) oZ | exact w_in oZ | exact zBb oZ | exact rfl)) ?_; clear E a; intro a E
    refine zd E ?_; clear E a; intro a E
    refine wpList_nil ?_
    refine zAb hK ?_; clear hK K
    iterate 2 (refine wp_seq_k ?_; intro K hK)
    refine zAa ?_
    iterate 3 (refine zd E ?_; clear E a; intro a E)
    refine zp E (zBc E rfl rfl rfl (by first | exact zBq (y := 32) oZ | exact w_in oZ | exact zBb oZ | exact rfl)) ?_; clear E a; intro a E
    refine zd E ?_; clear E a; intro a E
    have hs2 : zBm b ≤ 2048 := by omega
    have hkb : inK (zCs b) := by rw [← hk]; exact hin
    refine wpList_nil ?_
    refine zAb hK ?_; clear hK K
    refine zAs E rfl (fun hb => ?_) (fun hb => ?_)
    ·replace hb := Nrm.nrm hb
     refine wp_seq_k ?_; intro K hK
     replace E := E.keep (e' := [(0, _), (3, _), (4, _), (5, _), (6, _), (7, _), (8, _), (10, _), (12, _), (14, _)]) (kE10 rfl rfl rfl rfl rfl rfl rfl rfl rfl rfl)
     refine zAa ?_
     refine zd E ?_; clear E a; intro a E
     refine zCh E rfl rfl dZ rfl rfl Tryz.func42 rfl yZ rfl (zGk 10 _ _ S.hp) ?_
     rintro v62 w ⟨rfl, hT⟩; clear E a; intro a E
     have S := S.all hT
     iterate 4 (refine zd E ?_; clear E a; intro a E)
     refine zAg rfl (zAq E S rfl rfl rfl rfl (by simp [Value.oneCell']) rfl pZ (by simp) ?_); clear E S a; intro a w E S; simp only [List.take_succ_cons, List.take_zero, List.drop_succ_cons, List.drop_zero, List.cons_append, List.nil_append, List.append_nil, List.length_cons, List.length_nil, Nat.zero_add, Nat.add_zero] at S
     refine zd E ?_; clear E a; intro a E
     refine zAg rfl (zAq E S rfl rfl rfl rfl (by simp [Value.oneCell']) rfl pZ (by simp) ?_); clear E S a; intro a w E S; simp only [List.take_succ_cons, List.take_zero, List.drop_succ_cons, List.drop_zero, List.cons_append, List.nil_append, List.append_nil, List.length_cons, List.length_nil, Nat.zero_add, Nat.add_zero] at S
     refine zd E ?_; clear E a; intro a E
     refine wpList_nil ?_
     refine zAb hK ?_; clear hK K
     refine wp_ret ?_
     refine zAn ?_; clear hK K
     refine zDe E rfl rfl rfl rfl rfl (S.get pZ) rfl (S.get pZ) rfl ?_
     exact ⟨_, rfl, zEl (dec_3 h5 hkb hs2 oZ) ((St.drops [_, _, _, _] (S.front1 (A := D) pZ)).addNil.tr)⟩
    ·replace hb := Nrm.nrm hb
     refine wp_skip ?_
     refine zAb hK ?_; clear hK K
     refine wp_seq_k ?_; intro K hK
     replace E := E.keep (e' := [(0, _), (3, _), (4, _), (5, _), (6, _), (7, _), (8, _), (10, _), (12, _), (14, _)]) (kE10 rfl rfl rfl rfl rfl rfl rfl rfl rfl rfl)
     have h7 : 37 + n ≤ b.length := by omega
     have hto : (b.take (5 + n)).length = 5 + n := by rw [List.length_take]; omega
     obtain ⟨own, hown⟩ : ∃ own, own = shaF (zEf s ++ b.take (5 + n)) := ⟨_, rfl⟩
     have hownD : ownD b s = own := by rw [hown, ownD, ← hn]
     refine zDd (fun (a : Act) (w' : World) => ∃ b15, St w0 (D :: R') w' ([(b15, cel [.int .u64 own.a, .int .u64 own.b, .int .u64 own.c, .int .u64 own.d] 29)] :: [(b12, cel [fnv (mayF k), fnv (layF k), fnv (takF k)] 59)] :: D :: [(b6, cel [.int .u64 0, .int .u64 0, .int .u64 0, .int .u64 0] 29)] :: [(b4, cel [.int .i64 0, str [], .int .i64 0, .int .i64 0, .int .i64 0, .int .i64 0, str [], nilv, .int .i64 0, .int .i64 0, .int .i64 0, nilv, nilv] 26)] :: [(b3, cel [.int .u64 s.a, .int .u64 s.b, .int .u64 s.c, .int .u64 s.d] 29)] :: R') ∧ Fr a 116 [(0, .slice ad b.length c), (4, ptr b4), (6, ptr b6), (8, fnv 42), (10, .int .i64 k), (12, ptr b12), (14, .int .i64 ((5 + n : Nat) : Int)), (15, ptr b15)]) ?_ ?_
     ·skip
      refine zCn S (.cons (0, 0) (.cons (1, 0) (.cons (2, 0) (.cons (3, 0) (.cons (4, 0) (.fork 5 (.ofL [(6, 1), (7, 3)]) 6 (.ofL [(5, 1), (7, 3)]))))))) [[(b3, cel [.int .u64 s.a, .int .u64 s.b, .int .u64 s.c, .int .u64 s.d] 29)]] (fun h => h.sub (by first | (simp; done) | (simp +contextual; done) | (simp [*]; done))) yZ yZ ?_
      clear S; intro w S
      iterate 3 (refine zmd E ?_; clear E a; intro a E)
      refine zm E rfl (fun w h => rn_slice_hm (hi := 5 + n) (mx := 5 + n) (s := 1) E rfl rfl rfl rfl rfl rfl rfl rfl oZ oZ) ?_; clear E a; intro a E
      have hRo := hD.bytes (lo := 0) (hi := 5 + n) (mx := 5 + n) oZ oZ oZ
      rw [List.drop_zero, Nat.sub_zero] at hRo
      refine zm E rfl (fun w h => zAz (vs := [_, _, _, _]) E rfl rfl rfl (h.one mZ) rfl rfl) ?_; clear E a; intro a E
      refine ⟨?_, ?_⟩
      ·skip
       refine zBs E rfl rfl rfl dZ rfl Tryz.func31 rfl yZ rfl (over_ret s D _ (b.take (5 + n)) hRo oZ _ mZ (by refine hG.sub fun Q hQ => ?_; rcases List.mem_cons.1 hQ with rfl | hQ; simp; simp [hQ]) _ S.hp) ?_
       rintro v72 w ⟨he, hT⟩; clear E a; intro a E
       have S := S.all hT; rw [← hown] at he; subst he
       refine ⟨S.stab.sub (by first | (simp; done) | (simp +contextual; done) | (simp [*]; done)), ?_⟩
       refine zCu rfl rfl (zBf E S rfl rfl dZ rfl rfl rfl ?_); clear E S a; intro a w b15 E S; refine ⟨S.stab.sub (by first | (simp; done) | (simp +contextual; done) | (simp [*]; done)), ?_⟩
       refine zCb rfl rfl (zAq E S rfl rfl rfl rfl (by simp [Value.oneCell']) rfl pZ (by simp) ?_); clear E S a; intro a w E S; simp only [List.take_succ_cons, List.take_zero, List.drop_succ_cons, List.drop_zero, List.cons_append, List.nil_append, List.append_nil, List.length_cons, List.length_nil, Nat.zero_add, Nat.add_zero] at S
       refine zBi ?_
       refine zAk ?_
       exact ⟨_, S, E.keep (kE8 rfl rfl rfl rfl rfl rfl rfl rfl)⟩
      ·skip
       refine zCu rfl rfl (zBf E S rfl rfl dZ rfl rfl rfl ?_); clear E S a; intro a w b15 E S; refine ⟨S.stab.sub (by first | (simp; done) | (simp +contextual; done) | (simp [*]; done)), ?_⟩
       refine zBs E rfl rfl rfl dZ rfl Tryz.func31 rfl yZ rfl (over_ret s D _ (b.take (5 + n)) hRo oZ _ mZ (by refine hG.sub fun Q hQ => ?_; rcases List.mem_cons.1 hQ with rfl | hQ; simp; simp [hQ]) _ S.hp) ?_
       rintro v72 w ⟨he, hT⟩; clear E a; intro a E
       have S := S.all hT; rw [← hown] at he; subst he
       refine ⟨S.stab.sub (by first | (simp; done) | (simp +contextual; done) | (simp [*]; done)), ?_⟩
       refine zCb rfl rfl (zAq E S rfl rfl rfl rfl (by simp [Value.oneCell']) rfl pZ (by simp) ?_); clear E S a; intro a w E S; simp only [List.take_succ_cons, List.take_zero, List.drop_succ_cons, List.drop_zero, List.cons_append, List.nil_append, List.append_nil, List.length_cons, List.length_nil, Nat.zero_add, Nat.add_zero] at S
       refine zBi ?_
       refine zAk ?_
       exact ⟨_, S, E.keep (kE8 rfl rfl rfl rfl rfl rfl rfl rfl)⟩
     ·clear E S a; intro a w J; obtain ⟨b15, S, E⟩ := J
      refine zAb hK ?_; clear hK K
      iterate 2 (refine wp_seq_k ?_; intro K hK)
      obtain ⟨fn, q1, q2, q3⟩ := takF_fn hin
      have hRs := hD.bytes (lo := 5 + n) (hi := 37 + n) (mx := c) oZ oZ oZ
      rw [show 37 + n - (5 + n) = 32 by omega] at hRs
      refine zCn S (.ofL [(0, 0), (2, 0), (3, 0), (4, 0), (5, 0), (6, 0), (1, 1), (7, 3), (8, 2)]) [[(b15, cel [.int .u64 own.a, .int .u64 own.b, .int .u64 own.c, .int .u64 own.d] 29)]] (fun h => h.sub (by first | (simp; done) | (simp +contextual; done) | (simp [*]; done))) yZ yZ ?_
      clear S; intro w S
      refine zm E rfl (fun w h => zAz (vs := [_, _, _, _]) E rfl rfl rfl (h.one mZ) rfl rfl) ?_; clear E a; intro a E
      iterate 3 (refine zmd E ?_; clear E a; intro a E)
      refine zm E rfl (fun w h => zBc E rfl rfl rfl (by first | exact zBq (y := 32) oZ | exact w_in oZ | exact zBb oZ | exact rfl)) ?_; clear E a; intro a E
      refine zm E rfl (fun w h => zDi (lo := 5 + n) (hi := 37 + n) (s := 1) E rfl rfl rfl rfl rfl rfl rfl oZ oZ oZ) ?_; clear E a; intro a E
      refine zBs E rfl rfl rfl dZ rfl Tryz.func32 rfl yZ rfl (zIm own _ _ S.hp) ?_
      rintro v74 w ⟨D2, hD2, hT⟩; clear E a; intro a E
      have S := S.all hT
      refine ⟨S.stab.sub (by first | (simp; done) | (simp +contextual; done) | (simp [*]; done)), ?_⟩
      refine zFs E rfl rfl rfl dZ rfl Tryz.func45 rfl yZ rfl (equal_ret D2 D _ _ (zEf own) ((b.drop (5 + n)).take 32) (by rw [zDg]; exact hD2.rd) hRs (by rw [zDg]; omega) _ mZ mZ _ S.hp) ?_
      rintro v80 w ⟨rfl, hT⟩; clear E a; intro a E
      have S := S.all hT
      refine zCg E rfl rfl rfl dZ (fun w => zJk E rfl rfl) ?_; clear E a; intro a E
      refine zBi ?_
      refine zAb hK ?_; clear hK K
      refine zAs E rfl (fun hb => ?_) (fun hb => ?_)
      ·replace hb := Nrm.nrm hb
       refine wp_seq_k ?_; intro K hK
       refine zAa ?_
       refine zd E ?_; clear E a; intro a E
       refine zCh E rfl rfl dZ rfl rfl Tryz.func42 rfl yZ rfl (zGk 201 _ _ S.hp) ?_
       rintro v83 w ⟨rfl, hT⟩; clear E a; intro a E
       have S := S.all hT
       iterate 4 (refine zd E ?_; clear E a; intro a E)
       refine zAg rfl (zAq E S rfl rfl rfl rfl (by simp [Value.oneCell']) rfl pZ (by simp) ?_); clear E S a; intro a w E S; simp only [List.take_succ_cons, List.take_zero, List.drop_succ_cons, List.drop_zero, List.cons_append, List.nil_append, List.append_nil, List.length_cons, List.length_nil, Nat.zero_add, Nat.add_zero] at S
       refine zd E ?_; clear E a; intro a E
       refine zAg rfl (zAq E S rfl rfl rfl rfl (by simp [Value.oneCell']) rfl pZ (by simp) ?_); clear E S a; intro a w E S; simp only [List.take_succ_cons, List.take_zero, List.drop_succ_cons, List.drop_zero, List.cons_append, List.nil_append, List.append_nil, List.length_cons, List.length_nil, Nat.zero_add, Nat.add_zero] at S
       refine zd E ?_; clear E a; intro a E
       refine wpList_nil ?_
       refine zAb hK ?_; clear hK K
       refine wp_ret ?_
       refine zAn ?_; clear hK K
       refine zDe E rfl rfl rfl rfl rfl (S.get pZ) rfl (S.get pZ) rfl ?_
       exact ⟨_, rfl, zEl (dec_4 h5 hkb hs2 oZ (by rw [hownD, ← hn]; simpa using hb)) ((St.drops [_, _, _, _, _, _] (S.front1 (A := D) pZ)).addNil.tr)⟩
      ·replace hb := Nrm.nrm hb
       refine wp_skip ?_
       refine zAb hK ?_; clear hK K
       refine wp_seq_k ?_; intro K hK
       have hse : zEf (ownD b s) = (b.drop (5 + zBm b)).take 32 := by rw [hownD, ← hn]; simpa using hb
       obtain ⟨body, hbody⟩ : ∃ body, body = zEk b := ⟨_, rfl⟩
       have hRb := hD.bytes (lo := 5) (hi := 5 + n) (mx := c) oZ oZ oZ
       rw [show 5 + n - 5 = n by omega] at hRb
       have hbe : (b.drop 5).take n = body := by rw [hbody, zEk, ← hn]
       rw [hbe] at hRb
       have hbn : body.length ≤ 2048 := by rw [← hbe, List.length_take]; omega
       refine zAa ?_
       iterate 2 (refine zd E ?_; clear E a; intro a E)
       refine zp E (zDi (lo := 5) (hi := 5 + n) (s := 1) E rfl rfl rfl rfl rfl rfl rfl oZ oZ oZ) ?_; clear E a; intro a E
       refine zAh E rfl rfl dZ rfl Tryz.func43 rfl yZ rfl (zKs D _ body _ hRb (S.hp.sel sZ) oZ) ?_
       rintro v91 w ⟨p2, B, rfl, hB, hT⟩; clear E a; intro a E
       have S := S.call2 sZ hT
       refine zd E ?_; clear E a; intro a E
       refine wpList_nil ?_
       refine zAb hK ?_; clear hK K
       refine wp_seq_k ?_; intro K hK
       refine zAa ?_
       refine zd E ?_; clear E a; intro a E
       refine zp E (zBp (cells := [_, _, _, _, _, _, _, _, _, _, _, _, _]) E rfl rfl rfl) ?_; clear E a; intro a E
       refine zAg rfl (zBf E S rfl rfl dZ rfl rfl rfl ?_); clear E S a; intro a w b17 E S
       refine zAg rfl (zAq E S rfl rfl rfl rfl (by simp [Value.oneCell']) rfl pZ (by simp) ?_); clear E S a; intro a w E S; simp only [List.take_succ_cons, List.take_zero, List.drop_succ_cons, List.drop_zero, List.cons_append, List.nil_append, List.append_nil, List.length_cons, List.length_nil, Nat.zero_add, Nat.add_zero] at S
       refine wpList_nil ?_
       refine zAb hK ?_; clear hK K
       refine wp_seq_k ?_; intro K hK
       replace E := E.keep (e' := [(4, _), (6, _), (8, _), (12, _), (14, _), (15, _), (16, _), (17, _)]) (kE8 rfl rfl rfl rfl rfl rfl rfl rfl)
       refine zAa ?_
       refine zp E (by first | exact zAc (q := 2) E rfl rfl rfl | exact zAd (q := 2) E rfl rfl rfl) ?_; clear E a; intro a E
       iterate 2 (refine zd E ?_; clear E a; intro a E)
       refine zCh E rfl rfl dZ rfl rfl q1 q2 q3 rfl (takK_ret p2 b17 k ⟨body, 0, 0⟩ B hB _ (S.hp.sel sZ) hin) ?_
       rintro v97 w ⟨B2, X, pv, kv, dv, hB2, hX, hT⟩; clear E a; intro a E
       have S := S.call3 sZ hT
       refine wpList_nil ?_
       refine zAb hK ?_; clear hK K
       iterate 2 (refine wp_seq_k ?_; intro K hK)
       have hsml := zKg hin ⟨body, 0, 0⟩
       obtain ⟨rec, rd, htk⟩ : ∃ rec rd, zEj k ⟨body, 0, 0⟩ = (rec, rd) := ⟨_, _, rfl⟩
       rw [htk] at hB2 hX S hsml
       dsimp only at hB2 hX S hsml
       obtain ⟨a1, c1, rfl⟩ := hX.rd.pr.slice
       obtain ⟨a2, c2, rfl⟩ := hX.rd.kr.slice
       obtain ⟨a3, c3, rfl⟩ := hX.rd.dr.slice
       refine zAa ?_
       refine zd E ?_; clear E a; intro a E
       refine zAh E rfl rfl dZ rfl Tryz.func46 rfl yZ rfl (rdone_ret p2 rd B2 _ hB2 (S.hp.sel sZ)) ?_
       rintro v99 w ⟨rfl, hT⟩; clear E a; intro a E
       have S := S.call1 sZ hT
       iterate 2 (refine zd E ?_; clear E a; intro a E)
       refine zAj E (t := 101) rfl (fun hb101 => ?_) (fun hb101 => ?_)
       ·have hb101n := hb101; replace hb101n := Nrm.nrm hb101n
        iterate 3 (refine zn E hb101 ?_; clear E a; intro a E)
        refine zp E (zAf E rfl rfl hb101 rfl) ?_; clear E a; intro a E
        refine wpList_nil ?_
        refine zAb hK ?_; clear hK K
        refine zBo E rfl rfl ?_
        refine wp_seq_k ?_; intro K hK
        refine zAa ?_
        refine zd E ?_; clear E a; intro a E
        refine zCh E rfl rfl dZ rfl rfl Tryz.func42 rfl yZ rfl (zGk 200 _ _ S.hp) ?_
        rintro v107 w ⟨rfl, hT⟩; clear E a; intro a E
        have S := S.all hT
        iterate 4 (refine zd E ?_; clear E a; intro a E)
        refine zAg rfl (zAq E S rfl rfl rfl rfl (by simp [Value.oneCell']) rfl pZ (by simp) ?_); clear E S a; intro a w E S; simp only [List.take_succ_cons, List.take_zero, List.drop_succ_cons, List.drop_zero, List.cons_append, List.nil_append, List.append_nil, List.length_cons, List.length_nil, Nat.zero_add, Nat.add_zero] at S
        refine zd E ?_; clear E a; intro a E
        refine zAg rfl (zAq E S rfl rfl rfl rfl (by simp [Value.oneCell']) rfl pZ (by simp) ?_); clear E S a; intro a w E S; simp only [List.take_succ_cons, List.take_zero, List.drop_succ_cons, List.drop_zero, List.cons_append, List.nil_append, List.append_nil, List.length_cons, List.length_nil, Nat.zero_add, Nat.add_zero] at S
        refine zd E ?_; clear E a; intro a E
        refine wpList_nil ?_
        refine zAb hK ?_; clear hK K
        refine wp_ret ?_
        refine zAn ?_; clear hK K
        refine zDe E rfl rfl rfl rfl rfl (S.get pZ) rfl (S.get pZ) rfl ?_
        refine ⟨_, rfl, zEl (dec_5 h5 hkb hs2 oZ hse ?_) ?_⟩
        ·rw [← hk, ← hbody, htk]
         first
          | exact .inl (by simp only; omega)
          | exact .inr (ckE_no hb)
        ·exact (St.drops [_, _, _, _, _, _, _, _, _] (S.front1 (A := D) pZ)).addNil.tr
       ·have hb101n := hb101; replace hb101n := Nrm.nrm hb101n
        refine zy E hb101 (zAz (vs := [_, _, _, _, _, _, _, _, _, _, _, _, _]) E rfl rfl rfl (S.get pZ) rfl rfl) ?_; clear E a; intro a E
        refine zBk E rfl rfl rfl rfl hb101 ?_; refine zBy E rfl dZ rfl Tryz.func11 rfl yZ rfl (zJx hX.rd hsml mZ _ S.hp) ?_
        rintro v103 w ⟨rfl, hT⟩; clear E a; intro a E
        have S := S.all hT
        refine zyd E hb101 ?_; clear E a; intro a E
        refine zp E (zAe E rfl rfl hb101 rfl) ?_; clear E a; intro a E
        refine wpList_nil ?_
        refine zAb hK ?_; clear hK K
        refine zAs E rfl (fun hb => ?_) (fun hb => ?_)
        ·replace hb := Nrm.nrm hb
         refine wp_seq_k ?_; intro K hK
         refine zAa ?_
         refine zd E ?_; clear E a; intro a E
         refine zCh E rfl rfl dZ rfl rfl Tryz.func42 rfl yZ rfl (zGk 200 _ _ S.hp) ?_
         rintro v107 w ⟨rfl, hT⟩; clear E a; intro a E
         have S := S.all hT
         iterate 4 (refine zd E ?_; clear E a; intro a E)
         refine zAg rfl (zAq E S rfl rfl rfl rfl (by simp [Value.oneCell']) rfl pZ (by simp) ?_); clear E S a; intro a w E S; simp only [List.take_succ_cons, List.take_zero, List.drop_succ_cons, List.drop_zero, List.cons_append, List.nil_append, List.append_nil, List.length_cons, List.length_nil, Nat.zero_add, Nat.add_zero] at S
         refine zd E ?_; clear E a; intro a E
         refine zAg rfl (zAq E S rfl rfl rfl rfl (by simp [Value.oneCell']) rfl pZ (by simp) ?_); clear E S a; intro a w E S; simp only [List.take_succ_cons, List.take_zero, List.drop_succ_cons, List.drop_zero, List.cons_append, List.nil_append, List.append_nil, List.length_cons, List.length_nil, Nat.zero_add, Nat.add_zero] at S
         refine zd E ?_; clear E a; intro a E
         refine wpList_nil ?_
         refine zAb hK ?_; clear hK K
         refine wp_ret ?_
         refine zAn ?_; clear hK K
         refine zDe E rfl rfl rfl rfl rfl (S.get pZ) rfl (S.get pZ) rfl ?_
         refine ⟨_, rfl, zEl (dec_5 h5 hkb hs2 oZ hse ?_) ?_⟩
         ·rw [← hk, ← hbody, htk]
          first
           | exact .inl (by simp only; omega)
           | exact .inr (ckE_no hb)
         ·exact (St.drops [_, _, _, _, _, _, _, _, _] (S.front1 (A := D) pZ)).addNil.tr
        ·replace hb := Nrm.nrm hb
         refine wp_skip ?_
         refine zAb hK ?_; clear hK K
         refine wp_seq_k ?_; intro K hK
         rw [show rec.cells (.slice a1 rec.props.length c1) (.slice a2 rec.keep.length c2) (.slice a3 rec.data.length c3) = [.int .i64 rec.kind, str rec.name, .int .i64 rec.typ, .int .i64 rec.frm, .int .i64 rec.guid, .int .i64 rec.origin, str rec.snap, .slice a1 rec.props.length c1, .int .i64 rec.object, .int .i64 rec.at_, .int .i64 rec.many, .slice a2 rec.keep.length c2, .slice a3 rec.data.length c3] from rfl] at S
         refine zCn S (.ofL [(0, 0), (1, 0), (2, 0), (3, 0), (4, 1), (5, 0), (6, 3), (7, 2)]) [[(b17, cel [.int .i64 rec.kind, str rec.name, .int .i64 rec.typ, .int .i64 rec.frm, .int .i64 rec.guid, .int .i64 rec.origin, str rec.snap, .slice a1 rec.props.length c1, .int .i64 rec.object, .int .i64 rec.at_, .int .i64 rec.many, .slice a2 rec.keep.length c2, .slice a3 rec.data.length c3] 26)], [(b15, cel [.int .u64 own.a, .int .u64 own.b, .int .u64 own.c, .int .u64 own.d] 29)]] (fun h => h.sub (by first | (simp; done) | (simp +contextual; done) | (simp [*]; done))) yZ yZ ?_
         clear S; intro w S
         refine zm E rfl (fun w h => zAz (vs := [_, _, _, _, _, _, _, _, _, _, _, _, _]) E rfl rfl rfl (h.one mZ) rfl rfl) ?_; clear E a; intro a E
         refine zmd E ?_; clear E a; intro a E
         refine zm E rfl (fun w h => zBc E rfl rfl rfl (by first | exact zBq (y := 32) oZ | exact w_in oZ | exact zBb oZ | exact rfl)) ?_; clear E a; intro a E
         refine zm E rfl (fun w h => zAz (vs := [_, _, _, _]) E rfl rfl rfl (h.one mZ) rfl rfl) ?_; clear E a; intro a E
         refine zCu rfl rfl (zAq E S rfl rfl rfl rfl (by simp [Value.oneCell']) rfl pZ (by simp) ?_); clear E S a; intro a w E S; simp only [List.take_succ_cons, List.take_zero, List.drop_succ_cons, List.drop_zero, List.cons_append, List.nil_append, List.append_nil, List.length_cons, List.length_nil, Nat.zero_add, Nat.add_zero] at S; refine ⟨S.stab.sub (by first | (simp; done) | (simp +contextual; done) | (simp [*]; done)), ?_⟩
         refine zmd E ?_; clear E a; intro a E
         refine zCb rfl rfl (zAq E S rfl rfl rfl rfl (by simp [Value.oneCell']) rfl pZ (by simp) ?_); clear E S a; intro a w E S; simp only [List.take_succ_cons, List.take_zero, List.drop_succ_cons, List.drop_zero, List.cons_append, List.nil_append, List.append_nil, List.length_cons, List.length_nil, Nat.zero_add, Nat.add_zero] at S
         refine zCg E rfl rfl rfl dZ (fun w => zCl E rfl rfl) ?_; clear E a; intro a E
         refine zBi ?_
         refine zAb hK ?_; clear hK K
         refine wp_ret ?_
         refine zDe E rfl rfl rfl rfl rfl (S.get pZ) rfl (S.get pZ) rfl ?_
         refine ⟨_, rfl, ?_⟩
         show decP (decR b s) (D :: R') w0 _ _
         rw [dec_6 h5 hkb hs2 oZ hse (by rw [← hk, ← hbody, htk]; simp only; omega) (by rw [← hk, ← hbody, htk]; exact ckE_yes hb), hownD, ← hn, ← hk, ← hbody, htk]
         rw [show 5 + n + 32 = 37 + n by omega]
         exact ⟨X, _, _, _, rfl, hX, (St.drops2 [_, _, _, _, _, _, _, _] (S.front2 (A := X) (B := D) pZ pZ)).tr⟩
  ·skip
   refine zp E (zEt E rfl rfl rfl rfl rfl rfl rfl (S.get pZ) (row_not hin)) ?_; clear E a; intro a E
   iterate 3 (refine zd E ?_; clear E a; intro a E)
   refine zAg rfl (zBf E S rfl rfl dZ rfl rfl rfl ?_); clear E S a; intro a w b12 E S
   refine zAg rfl (zAq E S rfl rfl rfl rfl (by simp [Value.oneCell']) rfl pZ (by simp) ?_); clear E S a; intro a w E S; simp only [List.take_succ_cons, List.take_zero, List.drop_succ_cons, List.drop_zero, List.cons_append, List.nil_append, List.append_nil, List.length_cons, List.length_nil, Nat.zero_add, Nat.add_zero] at S
   refine zd E ?_; clear E a; intro a E
   refine wpList_nil ?_
   refine zAb hK ?_; clear hK K
   iterate 2 (refine wp_seq_k ?_; intro K hK)
   replace E := E.keep (e' := [(0, _), (3, _), (4, _), (5, _), (6, _), (7, _), (8, _), (10, _), (11, _), (12, _), (13, _)]) (kE11 rfl rfl rfl rfl rfl rfl rfl rfl rfl rfl rfl)
   refine zAa ?_
   iterate 3 (refine zd E ?_; clear E a; intro a E)
   refine zCc E (t := 44) rfl ((by rfl)) (fun hb44 => ?_)
   iterate 2 (refine zn E hb44 ?_; clear E a; intro a E)
   refine zp E (zAf E rfl rfl hb44 rfl) ?_; clear E a; intro a E
   refine wpList_nil ?_
   refine zAb hK ?_; clear hK K
   refine zBo E rfl rfl ?_
   refine wp_seq_k ?_; intro K hK
   refine zAa ?_
   refine zd E ?_; clear E a; intro a E
   refine zCh E rfl rfl dZ rfl rfl Tryz.func42 rfl yZ rfl (zGk 200 _ _ S.hp) ?_
   rintro v49 w ⟨rfl, hT⟩; clear E a; intro a E
   have S := S.all hT
   iterate 4 (refine zd E ?_; clear E a; intro a E)
   refine zAg rfl (zAq E S rfl rfl rfl rfl (by simp [Value.oneCell']) rfl pZ (by simp) ?_); clear E S a; intro a w E S; simp only [List.take_succ_cons, List.take_zero, List.drop_succ_cons, List.drop_zero, List.cons_append, List.nil_append, List.append_nil, List.length_cons, List.length_nil, Nat.zero_add, Nat.add_zero] at S
   refine zd E ?_; clear E a; intro a E
   refine zAg rfl (zAq E S rfl rfl rfl rfl (by simp [Value.oneCell']) rfl pZ (by simp) ?_); clear E S a; intro a w E S; simp only [List.take_succ_cons, List.take_zero, List.drop_succ_cons, List.drop_zero, List.cons_append, List.nil_append, List.append_nil, List.length_cons, List.length_nil, Nat.zero_add, Nat.add_zero] at S
   refine zd E ?_; clear E a; intro a E
   refine wpList_nil ?_
   refine zAb hK ?_; clear hK K
   refine wp_ret ?_
   refine zAn ?_; clear hK K
   refine zDe E rfl rfl rfl rfl rfl (S.get pZ) rfl (S.get pZ) rfl ?_
   exact ⟨_, rfl, zEl (dec_2 h5 (by rw [← hk, ← hn]; first | exact .inl hin | exact .inr oZ)) ((St.drops [_, _, _, _, _, _] (S.front1 (A := D) pZ)).addNil.tr)⟩
end Go.Proofs.YtbogecljkaimdaaGreatDoor
namespace Go.Sl
set_option maxRecDepth 10000
structure Rdr.At (s : Rdr) (t : List UInt8) : Prop where
 e : s.e = 0
 le : s.at_ ≤ s.bs.length
 eq : s.bs.drop s.at_ = t
theorem Rdr.At.len {s : Rdr} {t : List UInt8} (h : s.At t) : s.at_ + t.length = s.bs.length := by
 have := congrArg List.length h.eq
 rw [List.length_drop] at this
 have := h.le
 omega
theorem Rdr.At.step {s : Rdr} {x t : List UInt8} (h : s.At (x ++ t)) {n : Nat} (hn : n = x.length) : s.cut n 0 = x ∧ (Rdr.mk s.bs (s.at_ + n) s.e).At t := by
 subst hn
 have hl := h.len
 rw [List.length_append] at hl
 refine ⟨?_, h.e, by simp only; omega, ?_⟩
 ·rw [Rdr.cut, Nat.add_zero, h.eq]; simp
 ·simp only; rw [← List.drop_drop, h.eq]; simp
theorem zHc {s : Rdr} {n k : Nat} {t : List UInt8} (h : s.At (zBj n k ++ t)) (h1 : 1 ≤ k) (h8 : k ≤ 8) (hn : n < 256 ^ k) : (s.num k).1 = n ∧ (s.num k).2.At t := by
 have hl := h.len
 rw [List.length_append, zAx] at hl
 obtain ⟨q1, q2⟩ := h.step (n := k) (by rw [zAx])
 have hv : s.num k = (zBv (s.cut k 0), { s with at_ := s.at_ + k }) := by
  simp [Rdr.num, h.e, show ¬ ((k : Int) < 1 ∨ 8 < (k : Int)) by omega, show ¬ s.bs.length < s.at_ + k by omega]
 rw [hv, q1, zGg hn]
 exact ⟨rfl, q2⟩
theorem zGw {s : Rdr} {x t : List UInt8} {m : Int} (h : s.At (txt x ++ t)) (hm : (x.length : Int) ≤ m) (hx : x.length < 65536) : (s.text m).1 = x ∧ (s.text m).2.At t := by
 have hl := h.len
 rw [List.length_append, zCo] at hl
 rw [txt, List.append_assoc] at h
 obtain ⟨q1, q2⟩ := h.step (n := 2) (by rw [zAx])
 obtain ⟨q3, q4⟩ := q2.step (n := x.length) rfl
 have hnum : zBv (s.cut 2 0) = x.length := by rw [q1]; exact zGg hx
 have hcut : s.cut x.length 2 = x := by
  have : (Rdr.mk s.bs (s.at_ + 2) s.e).cut x.length 0 = s.cut x.length 2 := by simp [Rdr.cut]
  rw [← this, q3]
 have hv : s.text m = (x, { s with at_ := s.at_ + (2 + x.length) }) := by
  unfold Rdr.text
  rw [if_neg (by simp [h.e]), if_neg oZ, hnum, if_neg oZ, if_neg oZ, hcut]
 rw [hv]
 refine ⟨rfl, ?_⟩
 have q5 := q4
 simp only [Nat.add_assoc] at q5
 exact q5
theorem bytes_read {s : Rdr} {x t : List UInt8} (h : s.At (x ++ t)) : (s.bytes x.length).1 = x ∧ (s.bytes x.length).2.At t := by
 have hl := h.len
 rw [List.length_append] at hl
 obtain ⟨q1, q2⟩ := h.step (n := x.length) rfl
 have hv : s.bytes x.length = (x, { s with at_ := s.at_ + x.length }) := by
  unfold Rdr.bytes
  rw [if_neg (by simp [h.e]), if_neg oZ, Int.toNat_natCast, if_neg oZ, q1]
 rw [hv]
 exact ⟨rfl, q2⟩
theorem done_read {s : Rdr} (h : s.At []) : s.done = 0 := by
 have := h.len
 simp only [List.length_nil] at this
 have h2 : ¬ s.at_ < s.bs.length := by omega
 simp only [Rdr.done, h.e, h2, and_false, if_false]
theorem at_start (b : List UInt8) : (Rdr.mk b 0 0).At b := ⟨rfl, Nat.zero_le _, rfl⟩
theorem keepS_read {size : Nat} {more : Int} (h1 : 1 ≤ size) (h8 : size ≤ 8) {l : List Int} (hb : ∀ n ∈ l, 0 ≤ n + more ∧ n + more < 256 ^ size) {s : Rdr} {t : List UInt8} (h : s.At (zGs l size more ++ t)) :
  ∀ i, i ≤ l.length → (zFh size more s i).1 = l.take i ∧ (zFh size more s i).2.At (zGs (l.drop i) size more ++ t) := by
 intro i
 induction i with
 | zero => intro _; exact ⟨rfl, by rw [List.drop_zero]; exact h⟩
 | succ i ih =>
  intro hi
  obtain ⟨q1, q2⟩ := ih oZ
  have hil : i < l.length := by omega
  rw [List.drop_eq_getElem_cons hil] at q2
  have hc : zGs (l[i] :: l.drop (i + 1)) size more = zBj (l[i] + more).toNat size ++ zGs (l.drop (i + 1)) size more := rfl
  rw [hc, List.append_assoc] at q2
  have hbi := hb _ (List.getElem_mem hil)
  obtain ⟨r1, r2⟩ := zHc q2 h1 h8 (by
   have h0 := hbi.1
   exact (Int.toNat_lt h0).2 (by exact_mod_cast hbi.2))
  refine ⟨?_, r2⟩
  rw [zFh]
  simp only
  rw [r1, q1, ← List.take_append_getElem hil]
  congr 2
  have := hbi.1
  omega
theorem zKw {size : Nat} {more : Int} (h1 : 1 ≤ size) (h8 : size ≤ 8) {l : List Int} (hl : l.length ≤ 240) (hb : ∀ n ∈ l, 0 ≤ n + more ∧ n + more < 256 ^ size) {s : Rdr} {t : List UInt8} (h : s.At (zBj l.length 2 ++ (zGs l size more ++ t))) :
  (zFj s size more).1 = l ∧ (zFj s size more).2.At t := by
 obtain ⟨r1, r2⟩ := zHc h oZ oZ oZ
 have := keepS_read h1 h8 hb r2 l.length (Nat.le_refl _)
 rw [List.take_length, List.drop_length] at this
 rw [zFj]
 have e2 : ((s.num ((2 : Nat) : Int)).1) = (s.num 2).1 := rfl
 rw [e2] at r1
 rw [r1, Nat.min_eq_left oZ]
 exact ⟨this.1, this.2⟩
theorem prpS_read {l : List Prp} (hb : ∀ p ∈ l, p.name.length ≤ 24 ∧ p.value.length ≤ 64) {s : Rdr} {t : List UInt8} (h : s.At (zFg l ++ t)) :
  ∀ i, i ≤ l.length → (prpS s i).1 = l.take i ∧ (prpS s i).2.At (zFg (l.drop i) ++ t) := by
 intro i
 induction i with
 | zero => intro _; exact ⟨rfl, by rw [List.drop_zero]; exact h⟩
 | succ i ih =>
  intro hi
  obtain ⟨q1, q2⟩ := ih oZ
  have hil : i < l.length := by omega
  rw [List.drop_eq_getElem_cons hil] at q2
  have hc : zFg (l[i] :: l.drop (i + 1)) = (txt l[i].name ++ txt l[i].value) ++ zFg (l.drop (i + 1)) := rfl
  rw [hc, List.append_assoc, List.append_assoc] at q2
  have hbi := hb _ (List.getElem_mem hil)
  obtain ⟨r1, r2⟩ := zGw (m := 24) q2 oZ oZ
  obtain ⟨r3, r4⟩ := zGw (m := 64) r2 oZ oZ
  refine ⟨?_, r4⟩
  rw [prpS]
  simp only
  rw [r1, r3, q1, ← List.take_append_getElem hil]
theorem only1 {r : Rec} (h : r.kind = 1) (he : zCa (zDb r) = true) : r = { zCy 1 with name := r.name, many := r.many } := by
 rw [bare1 h] at he
 simp only [zCa, Bool.and_eq_true, decide_eq_true_eq] at he
 obtain ⟨kind, name, typ, frm, guid, origin, snap, props, object, at_, many, keep, data⟩ := r
 simp only at *
 simp only [zCy, Rec.mk.injEq]
 have h3 := he.2.2.2.2.2.2.2.2.2
 have p1 := List.length_eq_zero_iff.1 (show props.length = 0 by omega)
 have p2 := List.length_eq_zero_iff.1 (show keep.length = 0 by omega)
 have p3 := List.length_eq_zero_iff.1 (show data.length = 0 by omega)
 simp_all
theorem only2 {r : Rec} {k : Int} (h : r.kind = k) (hb : zDb r = { r with name := [], typ := 0, frm := 0, guid := 0, origin := 0, snap := [], props := [] }) (he : zCa (zDb r) = true) : r = { zCy k with name := r.name, typ := r.typ, frm := r.frm, guid := r.guid, origin := r.origin, snap := r.snap, props := r.props } := by
 rw [hb] at he
 simp only [zCa, Bool.and_eq_true, decide_eq_true_eq] at he
 obtain ⟨kind, name, typ, frm, guid, origin, snap, props, object, at_, many, keep, data⟩ := r
 simp only at *
 simp only [zCy, Rec.mk.injEq]
 have h3 := he.2.2.2.2.2.2.2.2.2
 simp only [List.length_nil] at h3
 have p2 := List.length_eq_zero_iff.1 (show keep.length = 0 by omega)
 have p3 := List.length_eq_zero_iff.1 (show data.length = 0 by omega)
 simp_all
theorem only3 {r : Rec} {k : Int} (h : r.kind = k) (hb : zDb r = { r with keep := [] }) (he : zCa (zDb r) = true) : r = { zCy k with keep := r.keep } := by
 rw [hb] at he
 simp only [zCa, Bool.and_eq_true, decide_eq_true_eq] at he
 obtain ⟨kind, name, typ, frm, guid, origin, snap, props, object, at_, many, keep, data⟩ := r
 simp only at *
 simp only [zCy, Rec.mk.injEq]
 have h3 := he.2.2.2.2.2.2.2.2.2
 simp only [List.length_nil] at h3
 have p1 := List.length_eq_zero_iff.1 (show props.length = 0 by omega)
 have p3 := List.length_eq_zero_iff.1 (show data.length = 0 by omega)
 simp_all
theorem only4 {r : Rec} {k : Int} (h : r.kind = k) (hb : zDb r = { r with object := 0, keep := [] }) (he : zCa (zDb r) = true) : r = { zCy k with object := r.object, keep := r.keep } := by
 rw [hb] at he
 simp only [zCa, Bool.and_eq_true, decide_eq_true_eq] at he
 obtain ⟨kind, name, typ, frm, guid, origin, snap, props, object, at_, many, keep, data⟩ := r
 simp only at *
 simp only [zCy, Rec.mk.injEq]
 have h3 := he.2.2.2.2.2.2.2.2.2
 simp only [List.length_nil] at h3
 have p1 := List.length_eq_zero_iff.1 (show props.length = 0 by omega)
 have p3 := List.length_eq_zero_iff.1 (show data.length = 0 by omega)
 simp_all
theorem only5 {r : Rec} {k : Int} (h : r.kind = k) (hb : zDb r = { r with object := 0, at_ := 0, data := [] }) (he : zCa (zDb r) = true) : r = { zCy k with object := r.object, at_ := r.at_, data := r.data } := by
 rw [hb] at he
 simp only [zCa, Bool.and_eq_true, decide_eq_true_eq] at he
 obtain ⟨kind, name, typ, frm, guid, origin, snap, props, object, at_, many, keep, data⟩ := r
 simp only at *
 simp only [zCy, Rec.mk.injEq]
 have h3 := he.2.2.2.2.2.2.2.2.2
 simp only [List.length_nil] at h3
 have p1 := List.length_eq_zero_iff.1 (show props.length = 0 by omega)
 have p2 := List.length_eq_zero_iff.1 (show keep.length = 0 by omega)
 simp_all
theorem only6 {r : Rec} {k : Int} (h : r.kind = k) (hb : zDb r = { r with many := 0 }) (he : zCa (zDb r) = true) : r = { zCy k with many := r.many } := by
 rw [hb] at he
 simp only [zCa, Bool.and_eq_true, decide_eq_true_eq] at he
 obtain ⟨kind, name, typ, frm, guid, origin, snap, props, object, at_, many, keep, data⟩ := r
 simp only at *
 simp only [zCy, Rec.mk.injEq]
 have h3 := he.2.2.2.2.2.2.2.2.2
 have p1 := List.length_eq_zero_iff.1 (show props.length = 0 by omega)
 have p2 := List.length_eq_zero_iff.1 (show keep.length = 0 by omega)
 have p3 := List.length_eq_zero_iff.1 (show data.length = 0 by omega)
 simp_all
end Go.Sl
namespace Go.Proofs.YtbogecljkaimdaaGreatDoor
open Go.Sl
set_option maxRecDepth 10000
theorem ckB_all {r : Rec} (h : ckB r = true) : inK r.kind ∧ mayK r.kind r = true ∧ zCa (zDb r) = true := by
 simp only [ckB, Bool.and_eq_true, decide_eq_true_eq] at h
 exact ⟨h.1, h.2.1, h.2.2⟩
theorem nrd1 {s : Rdr} {n : Nat} {t : List UInt8} (h : s.At (zBj n 1 ++ t)) (hn : n < 256) : (s.num 1).1 = n ∧ (s.num 1).2.At t := zHc (k := 1) h oZ oZ oZ
theorem nrd2 {s : Rdr} {n : Nat} {t : List UInt8} (h : s.At (zBj n 2 ++ t)) (hn : n < 65536) : (s.num 2).1 = n ∧ (s.num 2).2.At t := zHc (k := 2) h oZ oZ oZ
theorem nrd4 {s : Rdr} {n : Nat} {t : List UInt8} (h : s.At (zBj n 4 ++ t)) (hn : n < 4294967296) : (s.num 4).1 = n ∧ (s.num 4).2.At t := zHc (k := 4) h oZ oZ oZ
theorem nrd6 {s : Rdr} {n : Nat} {t : List UInt8} (h : s.At (zBj n 6 ++ t)) (hn : n < 281474976710656) : (s.num 6).1 = n ∧ (s.num 6).2.At t := zHc (k := 6) h oZ oZ oZ
theorem at_nil {s : Rdr} {b : List UInt8} (h : s.At b) : s.At (b ++ []) := by rwa [List.append_nil]
theorem take1_read {r : Rec} (hk : r.kind = 1) (h : may1 r = true) (he : zCa (zDb r) = true) {s : Rdr} (h0 : s.At (body1 r)) : (take1 1 s).1 = r ∧ (take1 1 s).2.At [] := by
 have hn := may1_num h
 rw [body1] at h0
 obtain ⟨a1, a2⟩ := zGw (m := 24) h0 oZ oZ
 obtain ⟨b1, b2⟩ := nrd2 (at_nil a2) oZ
 refine ⟨?_, b2⟩
 conv => rhs; rw [only1 hk he]
 show ({ zCy 1 with name := (s.text 24).1, many := (((s.text 24).2.num 2).1 : Int) } : Rec) = _
 rw [a1, b1, Int.toNat_of_nonneg oZ]
theorem take3_read {r : Rec} (hk : r.kind = 3) (h : may3 r = true) (he : zCa (zDb r) = true) {s : Rdr} (h0 : s.At (body3 r)) : (take3 3 s).1 = r ∧ (take3 3 s).2.At [] := by
 have hn := zIl (l := r.keep) h
 rw [body3] at h0
 obtain ⟨a1, a2⟩ := zKw (size := 4) (more := 0) (l := r.keep) (t := []) oZ oZ hn.1 (fun n hq => by have := hn.2 n hq; omega) (by rw [List.append_nil]; exact h0)
 refine ⟨?_, a2⟩
 conv => rhs; rw [only3 hk (bare3 hk) he]
 show ({ zCy 3 with keep := (zFj s 4 0).1 } : Rec) = _
 rw [a1]
theorem take4_read {r : Rec} (hk : r.kind = 4) (h : may4 r = true) (he : zCa (zDb r) = true) {s : Rdr} (h0 : s.At (body4 r)) : (take4 4 s).1 = r ∧ (take4 4 s).2.At [] := by
 simp only [may4, Bool.and_eq_true, decide_eq_true_eq] at h
 have hn := zIl (l := r.keep) h.2.2
 rw [body4] at h0
 obtain ⟨b1, b2⟩ := nrd4 h0 oZ
 obtain ⟨a1, a2⟩ := zKw (size := 2) (more := 1) (l := r.keep) (t := []) oZ oZ hn.1 (fun n hq => by have := hn.2 n hq; omega) (by rw [List.append_nil]; exact b2)
 refine ⟨?_, a2⟩
 conv => rhs; rw [only4 hk (bare4 hk) he]
 show ({ zCy 4 with object := ((s.num 4).1 : Int), keep := (zFj (s.num 4).2 2 1).1 } : Rec) = _
 rw [a1, b1, Int.toNat_of_nonneg oZ]
theorem take5_read {r : Rec} (hk : r.kind = 5) (h : may5 r = true) (he : zCa (zDb r) = true) {s : Rdr} (h0 : s.At (body5 r)) : (take5 5 s).1 = r ∧ (take5 5 s).2.At [] := by
 simp only [may5, Bool.and_eq_true, decide_eq_true_eq] at h
 rw [body5] at h0
 obtain ⟨a1, a2⟩ := nrd4 h0 oZ
 obtain ⟨b1, b2⟩ := nrd2 a2 oZ
 obtain ⟨c1, c2⟩ := nrd2 b2 oZ
 obtain ⟨d1, d2⟩ := bytes_read (at_nil c2)
 have e : (((s.num 4).2.num 2).2.num 2).2.bytes ((((s.num 4).2.num 2).2.num 2).1 : Int) = (((s.num 4).2.num 2).2.num 2).2.bytes (r.data.length : Int) := by rw [c1]
 refine ⟨?_, ?_⟩
 ·conv => rhs; rw [only5 hk (bare5 hk) he]
  show ({ zCy 5 with object := ((s.num 4).1 : Int), at_ := (((s.num 4).2.num 2).1 : Int) - 1, data := ((((s.num 4).2.num 2).2.num 2).2.bytes ((((s.num 4).2.num 2).2.num 2).1 : Int)).1 } : Rec) = _
  rw [e, d1, a1, b1, Int.toNat_of_nonneg oZ, Int.toNat_of_nonneg oZ, Int.add_sub_cancel]
 ·show ((((s.num 4).2.num 2).2.num 2).2.bytes ((((s.num 4).2.num 2).2.num 2).1 : Int)).2.At []
  rw [e]; exact d2
theorem zKx {r : Rec} {k : Int} (hk : r.kind = k) (hb : zDb r = { r with many := 0 }) (h : may6 r = true) (he : zCa (zDb r) = true) {s : Rdr} (h0 : s.At (body6 r)) : (take6 k s).1 = r ∧ (take6 k s).2.At [] := by
 simp only [may6, decide_eq_true_eq] at h
 rw [body6] at h0
 obtain ⟨a1, a2⟩ := nrd4 (at_nil h0) oZ
 refine ⟨?_, a2⟩
 conv => rhs; rw [only6 hk hb he]
 show ({ zCy k with many := ((s.num 4).1 : Int) } : Rec) = _
 rw [a1, Int.toNat_of_nonneg oZ]
theorem take2_read {r : Rec} (hk : r.kind = 2) (h : begB r = true) (he : zCa (zDb r) = true) {s : Rdr} (h0 : s.At (body2 r)) : (zHs 2 s).1 = r ∧ (zHs 2 s).2.At [] := by
 obtain ⟨q1, q2, q3, q4, q5, q6, q7⟩ := (zDn r).1 h
 have h1 := beh_len q1
 have h2 := zIe q6
 have h3 := prps_num q7
 rw [body2] at h0
 obtain ⟨a1, a2⟩ := zGw (m := 240) h0 oZ oZ
 obtain ⟨b1, b2⟩ := nrd1 a2 oZ
 obtain ⟨c1, c2⟩ := nrd6 b2 oZ
 obtain ⟨d1, d2⟩ := nrd6 c2 oZ
 obtain ⟨e1, e2⟩ := nrd1 d2 oZ
 obtain ⟨f1, f2⟩ := zGw (m := 24) e2 oZ oZ
 obtain ⟨g1, g2⟩ := nrd1 f2 oZ
 have hp := prpS_read h3.2 (at_nil g2) r.props.length (Nat.le_refl _)
 rw [List.take_length, List.drop_length] at hp
 unfold zHs
 extract_lets n a b c d t m p
 have e : p = prpS m.2 r.props.length := by show prpS m.2 m.1 = _; rw [show m.1 = r.props.length from g1]
 have hp1 : p.1 = r.props := by rw [e]; exact hp.1
 have hp2 : p.2.At [] := by rw [e]; exact hp.2
 refine ⟨?_, hp2⟩
 conv => rhs; rw [only2 hk (bare2 hk) he]
 have a1 : n.1 = r.name := a1
 have b1 : a.1 = r.typ.toNat := b1
 have c1 : b.1 = r.frm.toNat := c1
 have d1 : c.1 = r.guid.toNat := d1
 have e1 : d.1 = r.origin.toNat := e1
 have f1 : t.1 = r.snap := f1
 show ({ zCy 2 with name := n.1, typ := a.1, frm := b.1, guid := c.1, origin := d.1, snap := t.1, props := p.1 } : Rec) = _
 rw [a1, b1, c1, d1, e1, f1, hp1, Int.toNat_of_nonneg oZ, Int.toNat_of_nonneg oZ, Int.toNat_of_nonneg oZ, Int.toNat_of_nonneg oZ]
theorem takeK_read {r : Rec} (h : ckB r = true) {s : Rdr} (h0 : s.At (zEx r.kind r)) : (zEj r.kind s).1 = r ∧ (zEj r.kind s).2.At [] := by
 obtain ⟨h1, h2, h3⟩ := ckB_all h
 rcases zEm h1 with hk | hk | hk | hk | hk | hk | hk <;> rw [hk] at h2 h0 ⊢
 ·exact take1_read hk h2 h3 h0
 ·exact take2_read hk h2 h3 h0
 ·exact take3_read hk h2 h3 h0
 ·exact take4_read hk h2 h3 h0
 ·exact take5_read hk h2 h3 h0
 ·exact zKx hk (bare6 oZ oZ oZ oZ oZ) h2 h3 h0
 ·exact zKx hk (bare6 oZ oZ oZ oZ oZ) h2 h3 h0
end Go.Proofs.YtbogecljkaimdaaGreatDoor
namespace Go.Proofs.YtbogecljkaimdaaGreatDoor
open Go.Sl
set_option maxRecDepth 10000
theorem zHt (k : Int) (body : List UInt8) (s : Fs) (t : List UInt8) : zCt k body s ++ t = zBj k.toNat 1 ++ (zBj body.length 4 ++ (body ++ (zEf (ownS k body s) ++ t))) := by
 simp only [zCt, zEr, headB, List.append_assoc]
theorem zGx {α : Type} {a b : List α} {n : Nat} (h : n = a.length) : (a ++ b).take n = a := by subst h; simp
theorem zKh {α : Type} {a b : List α} {n : Nat} (h : n = a.length) : (a ++ b).drop n = b := by subst h; simp
section
variable {k : Int} (hk : inK k) {body : List UInt8} (hb : body.length ≤ 2048) (s : Fs) (t : List UInt8)
include hk
theorem piece_kind : (zCs (zCt k body s ++ t) : Int) = k := by
 rw [zHt, zCs, zGx (by rw [zAx]), zGg (by have := hk.2; omega)]
 have := hk.1
 omega
include hb
omit hk in
theorem zHd : zBm (zCt k body s ++ t) = body.length := by
 rw [zHt, zBm, zKh (by rw [zAx]), zGx (by rw [zAx]), zGg oZ]
omit hk in
theorem piece_body : zEk (zCt k body s ++ t) = body := by
 rw [zEk, zHd hb, zHt, ← List.append_assoc, zKh (by simp [zAx]), zGx rfl]
omit hk in
theorem piece_take : (zCt k body s ++ t).take (5 + zBm (zCt k body s ++ t)) = zEr k body := by
 rw [zHd hb, zCt, List.append_assoc, zGx (by rw [zEh])]
omit hk in
theorem piece_own : ownD (zCt k body s ++ t) s = ownS k body s := by rw [ownD, piece_take hb, ownS]
omit hk in
theorem piece_seal : ((zCt k body s ++ t).drop (5 + zBm (zCt k body s ++ t))).take 32 = zEf (ownS k body s) := by
 rw [zHd hb, zCt, List.append_assoc, zKh (by rw [zEh]), zGx (by rw [zDg])]
end
theorem dec_enc {r : Rec} (h : ckB r = true) (s : Fs) (t : List UInt8) : decR (zCt r.kind (zEx r.kind r) s ++ t) s = (0, r, (zCt r.kind (zEx r.kind r) s).length, ownS r.kind (zEx r.kind r) s) := by
 obtain ⟨h1, h2, h3⟩ := ckB_all h
 have hb := body_le h1 h2
 have hl := zGj r.kind (zEx r.kind r) s
 have e1 := piece_kind h1 (body := zEx r.kind r) s t
 have e2 := zHd (k := r.kind) hb s t
 have e3 := piece_body (k := r.kind) hb s t
 have e4 := piece_own (k := r.kind) hb s t
 have e5 := piece_seal (k := r.kind) hb s t
 obtain ⟨q1, q2⟩ := takeK_read h (at_start (zEx r.kind r))
 have hlen : (zCt r.kind (zEx r.kind r) s ++ t).length = 37 + (zEx r.kind r).length + t.length := by rw [List.length_append, hl]
 rw [dec_6 oZ (by rw [e1]; exact h1) oZ oZ (by rw [e4, e5]) (by rw [e1, e3]; exact done_read q2) (by rw [e1, e3, q1]; exact h), e1, e2, e3, e4, q1, hl]
end Go.Proofs.YtbogecljkaimdaaGreatDoor
