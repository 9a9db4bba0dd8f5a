/-
  Texts put together (16).
-/
import Derived.Test.YtidhehcjafoneaaGreatDoorZMirrorKeeps15
namespace Go.Sl
theorem enter7 {P : Program} {f : FuncId} {fn : Func} {c : Code} {w : World} {R : Ending → World → Prop} (n : Nat) {x0 x1 x2 x3 x4 x5 x6 : Value} (hf : P.funcs[f]? = some fn) (hb : fn.body = some c) (hn : fn.ntmps = n) (hs : 7 ≤ n)
    (h : ∀ a, Fr a n [(0, x0), (1, x1), (2, x2), (3, x3), (4, x4), (5, x5), (6, x6)] → c.wp P (bodyPost P fn R) a w) : Calls P f #[x0, x1, x2, x3, x4, x5, x6] w R :=
  zFa n _ _ hf hb hn hs (zGb _ _ (by simp)) h
end Go.Sl
namespace Go.Proofs.YtidhehcjafoneaaGreatDoor
open Go.Sl
set_option maxRecDepth 10000
theorem zDx {n : Int} (h1 : 1 ≤ n) (h2 : n ≤ 1024) : zDm n = (n + 127) / 128 := by unfold zDm; rw [if_neg (by omega)]
def PcO (O : zAu) (v : Value) (l : List (Value × List UInt8)) : Prop := Rd O 1 v l.length (l.map (·.1)) ∧ ∀ x ∈ l, Rd O 1 x.1 x.2.length (byt x.2)
theorem xs_ne {xs : List (Nat × Nat)} (hnd : (xs.map Prod.snd).Nodup) {i j : Nat} (hi : i < xs.length) (hj : j < xs.length) (h : j ≠ i) : xs[j].2 ≠ xs[i].2 := fun q => h (by
  have h1 : (xs.map Prod.snd)[j]'(by simpa using hj) = (xs.map Prod.snd)[i]'(by simpa using hi) := by simpa using q
  exact (List.getElem_inj hnd).1 h1)
theorem rdK_failed {R : Rk} {a : Nat} {b : List UInt8} {x : Nat × Nat} (h : (dkOf R x.2).failed = true) : rdK R a b x = none := by unfold rdK rdC; rw [h]; rfl
theorem rdK_well {R : Rk} {a : Nat} {b : List UInt8} {x : Nat × Nat} (h : (dkOf R x.2).failed = false) : rdK R a b x = some (secC (dkOf R x.2) a (zDm b.length).toNat b.length) := by unfold rdK rdC; rw [h]; rfl
theorem secC_take {y : Dk} {a n k : Nat} {cc : List UInt8} (h : cc = (y.now.drop (a * 128)).take (n * 128)) : secC y a n k = cc.take k := by rw [h]; rfl
structure Spoilt (R : Rk) (xs : List (Nat × Nat)) (a : Nat) (b : List UInt8) (chk : List UInt8 → Bool) (kk i : Nat) : Prop where
  up : Up R xs 40
  keep : ∀ h : kk < xs.length, (dkOf R xs[kk].2).failed = false ∧ rdK R a b xs[kk] = some b
  rest : ∀ j (h : j < xs.length), i ≤ j → (dkOf R xs[j].2).failed = false ∧ rdK R a b xs[j] = some b
  good : ∀ x ∈ xs, ∀ c, rdK R a b x = some c → chk c = true → c = b
theorem Spoilt.next {R : Rk} {xs : List (Nat × Nat)} {a : Nat} {b : List UInt8} {chk : List UInt8 → Bool} {kk i : Nat} (h : Spoilt R xs a b chk kk i) : Spoilt R xs a b chk kk (i + 1) :=
  ⟨h.up, h.keep, fun j hj hij => h.rest j hj (by omega), h.good⟩
theorem Spoilt.step {R R' : Rk} {xs : List (Nat × Nat)} {a : Nat} {b : List UInt8} {chk : List UInt8 → Bool} {kk i : Nat} (h : Spoilt R xs a b chk kk i) (hnd : (xs.map Prod.snd).Nodup) (hi : i < xs.length) (hik : i ≠ kk) (hU : Up R' xs 40)
    (hs : ∀ x ∈ xs, x.2 ≠ xs[i].2 → dkOf R' x.2 = dkOf R x.2) (hg : ∀ c, rdK R' a b xs[i] = some c → chk c = true → c = b) : Spoilt R' xs a b chk kk (i + 1) := by
  have hsame : ∀ j (hj : j < xs.length), j ≠ i → dkOf R' xs[j].2 = dkOf R xs[j].2 := fun j hj q => hs _ (List.getElem_mem hj) (xs_ne hnd hi hj q)
  refine ⟨hU, fun hk => ?_, fun j hj hij => ?_, fun x hx c hc hk => ?_⟩
  · have e := hsame kk hk (fun q => hik q.symm)
    rw [e, zFl e]; exact h.keep hk
  · have e := hsame j hj (by omega)
    rw [e, zFl e]; exact h.rest j hj (by omega)
  · obtain ⟨j, hj, rfl⟩ := List.mem_iff_getElem.1 hx
    by_cases q : j = i
    · subst q; exact hg c hc hk
    · rw [zFl (hsame j hj q)] at hc; exact h.good _ hx c hc hk
theorem keeps_walk (O : zAu) (hL : Lay3 O) (n k at_ : Int) (ha : -9223372036854775808 ≤ at_ ∧ at_ ≤ 9223372036854775807) (v : Value) (b : List UInt8) (hb0 : Rd O 1 v b.length (byt b)) (hbl : b.length ≤ 140737488352000) (kind : Int)
    (vm : Value) (ms : List (Value × List UInt8)) (hm : PcO O vm ms) (vd : Value) (ds : List Bool) (hd : Rd O 1 vd ds.length (ds.map Value.bool)) (w0 : World) (H : Hp w0 [O]) :
    Ret Tryz.prog 3 #[.int .i64 n, .int .i64 k, .int .i64 at_, v, .int .i64 kind, vm, vd] w0 fun u w' => u = .bool true ∧ Trs w0 w' [O] [O] := by
  have S := St.begin H
  obtain ⟨adb, cb, rfl⟩ := hb0.slice
  obtain ⟨adm, cm, rfl⟩ := hm.1.slice
  obtain ⟨add, cd, rfl⟩ := hd.slice
  obtain ⟨n1, n2, n3, n4⟩ := zEo b.length
  refine enter7 287 Tryz.func3 rfl rfl (by decide) ?_; intro a E
  refine wp_seq_k ?_; intro K hK
  refine zAc ?_
  refine zp E (zAf E rfl rfl) ?_; clear E a; intro a E
  refine wpList_nil ?_
  refine zAh hK ?_; clear hK; clear K
  refine wp_seq_k ?_; intro K hK
  refine zAc ?_
  refine zAs E rfl rfl (by decide) rfl Tryz.func5 rfl (by kernel_rfl) rfl (awake_ret O hL.1 _ S.hp) ?_
  rintro v33 w ⟨rfl, hT⟩; clear E a; intro a E
  have S := S.all hT
  refine zp E (zAf E rfl rfl) ?_; clear E a; intro a E
  refine wpList_nil ?_
  refine zAh hK ?_; clear hK; clear K
  iterate 2 (refine wp_seq_k ?_; intro K hK)
  refine zEw (fun (a : Act) (w' : World) => ∃ bt : Bool, (bt = true ↔ ¬ (1 ≤ n ∧ n ≤ 5 ∧ 0 ≤ k ∧ k < n)) ∧ St w0 [O] w' [O] ∧ Fr a 287 [(0, .int .i64 n), (1, .int .i64 k), (2, .int .i64 at_), (3, .slice adb b.length cb), (4, .int .i64 kind), (5, .slice adm ms.length cm), (6, .slice add ds.length cd), (15, .bool true), (48, .bool bt)]) ?_ ?_
  · skip
    refine zAc ?_
    refine zp E (zAe E rfl rfl) ?_; clear E a; intro a E
    refine zp E (zCd E rfl rfl rfl) ?_; clear E a; intro a E
    refine zp E (zAe E rfl rfl) ?_; clear E a; intro a E
    refine zAz E (t := 36) rfl (fun hb36 => ?_) (fun hb36 => ?_)
    · have hb36n := hb36; replace hb36n := Nrm.nrm hb36n
      iterate 2 (refine zn E hb36 ?_; clear E a; intro a E)
      refine zp E (zAl E rfl rfl hb36 rfl) ?_; clear E a; intro a E
      refine zp E (zAe E rfl rfl) ?_; clear E a; intro a E
      iterate 2 (refine zn E rfl ?_; clear E a; intro a E)
      refine zp E (zAl E rfl rfl rfl rfl) ?_; clear E a; intro a E
      refine zp E (zAe E rfl rfl) ?_; clear E a; intro a E
      iterate 3 (refine zn E rfl ?_; clear E a; intro a E)
      refine zp E (zAl E rfl rfl rfl rfl) ?_; clear E a; intro a E
      refine wpList_nil ?_
      refine zBn ?_
      exact ⟨_, by first | (simp; omega) | (simp only [decide_eq_true_eq]; omega), S, E.keep (zAb rfl (zAb rfl (zAb rfl (zAb rfl (zAb rfl (zAb rfl (zAb rfl (zAb rfl (zAb rfl zAq)))))))))⟩
    · have hb36n := hb36; replace hb36n := Nrm.nrm hb36n
      refine zy E hb36 (zAe E rfl rfl) ?_; clear E a; intro a E
      refine zy E hb36 (zDf E rfl rfl rfl) ?_; clear E a; intro a E
      refine zp E (zAr E rfl rfl hb36 rfl) ?_; clear E a; intro a E
      refine zp E (zAe E rfl rfl) ?_; clear E a; intro a E
      refine zAz E (t := 40) rfl (fun hb40 => ?_) (fun hb40 => ?_)
      · have hb40n := hb40; replace hb40n := Nrm.nrm hb40n
        iterate 2 (refine zn E hb40 ?_; clear E a; intro a E)
        refine zp E (zAl E rfl rfl hb40 rfl) ?_; clear E a; intro a E
        refine zp E (zAe E rfl rfl) ?_; clear E a; intro a E
        iterate 3 (refine zn E rfl ?_; clear E a; intro a E)
        refine zp E (zAl E rfl rfl rfl rfl) ?_; clear E a; intro a E
        refine wpList_nil ?_
        refine zBn ?_
        exact ⟨_, by first | (simp; omega) | (simp only [decide_eq_true_eq]; omega), S, E.keep (zAb rfl (zAb rfl (zAb rfl (zAb rfl (zAb rfl (zAb rfl (zAb rfl (zAb rfl (zAb rfl zAq)))))))))⟩
      · have hb40n := hb40; replace hb40n := Nrm.nrm hb40n
        refine zy E hb40 (zAe E rfl rfl) ?_; clear E a; intro a E
        refine zy E hb40 (zCd E rfl rfl rfl) ?_; clear E a; intro a E
        refine zp E (zAr E rfl rfl hb40 rfl) ?_; clear E a; intro a E
        refine zp E (zAe E rfl rfl) ?_; clear E a; intro a E
        refine zAz E (t := 44) rfl (fun hb44 => ?_) (fun hb44 => ?_)
        · have hb44n := hb44; replace hb44n := Nrm.nrm hb44n
          iterate 3 (refine zn E hb44 ?_; clear E a; intro a E)
          refine zp E (zAl E rfl rfl hb44 rfl) ?_; clear E a; intro a E
          refine wpList_nil ?_
          refine zBn ?_
          exact ⟨_, by first | (simp; omega) | (simp only [decide_eq_true_eq]; omega), S, E.keep (zAb rfl (zAb rfl (zAb rfl (zAb rfl (zAb rfl (zAb rfl (zAb rfl (zAb rfl (zAb rfl zAq)))))))))⟩
        · have hb44n := hb44; replace hb44n := Nrm.nrm hb44n
          iterate 2 (refine zy E hb44 (zAe E rfl rfl) ?_; clear E a; intro a E)
          refine zy E hb44 (zDs E rfl rfl rfl) ?_; clear E a; intro a E
          refine zp E (zAr E rfl rfl hb44 rfl) ?_; clear E a; intro a E
          refine wpList_nil ?_
          refine zBn ?_
          exact ⟨_, by first | (simp; omega) | (simp only [decide_eq_true_eq]; omega), S, E.keep (zAb rfl (zAb rfl (zAb rfl (zAb rfl (zAb rfl (zAb rfl (zAb rfl (zAb rfl (zAb rfl zAq)))))))))⟩
  · clear E S a; intro a w J; obtain ⟨bt, hbt, S, E⟩ := J
    refine zAh hK ?_; clear hK; clear K
    refine zBl E rfl (fun hb => ?_) (fun hb => ?_)
    · replace hb := Nrm.nrm hb
      skip
      refine wp_seq_k ?_; intro K hK
      refine zAc ?_
      refine zp E (zAe E rfl rfl) ?_; clear E a; intro a E
      refine zp E (zAf E rfl rfl) ?_; clear E a; intro a E
      refine wpList_nil ?_
      refine zAh hK ?_; clear hK; clear K
      refine wp_ret ?_
      refine zBi ?_; clear hK; clear K
      refine ret1 E rfl rfl ?_
      exact ⟨_, rfl, rfl, S.tr⟩
    · replace hb := Nrm.nrm hb
      have hp : 1 ≤ n ∧ n ≤ 5 ∧ 0 ≤ k ∧ k < n := (by have := mt hbt.2 (by simp [hb]); exact Classical.not_not.1 this)
      refine wp_skip ?_
      refine zAh hK ?_; clear hK; clear K
      refine wp_seq_k ?_; intro K hK
      obtain ⟨nn, rfl⟩ : ∃ nn : Nat, n = nn := ⟨n.toNat, by omega⟩
      obtain ⟨kk, rfl⟩ : ∃ kk : Nat, k = kk := ⟨k.toNat, by omega⟩
      refine zAc ?_
      refine zp E (zAe E rfl rfl) ?_; clear E a; intro a E
      refine zAs E rfl rfl (by decide) rfl Tryz.func6 rfl (by kernel_rfl) rfl (begun_ret nn (by omega) _) ?_
      rintro v52 w ⟨x, p, t, R, C, xs, Lv, vl, vk, CL, CK, vD, CD, vL, CLs, v4, v5, v6, v7, rfl, hGk, hCL, hCK, hCD, hCLs, hT⟩; clear E a; intro a E
      have S := S.call (zAk _) hT; simp only [List.cons_append, List.nil_append] at S; have hU := hGk.up (by omega); have hlen := hGk.len; have hnd := hGk.nd; have hnf := fun x hx => (hGk.dk x hx).1; obtain ⟨hC, _, _, _, hLv⟩ := hGk
      obtain ⟨adD, cD, rfl⟩ := hCD.slice
      obtain ⟨gD, rfl⟩ := hCD.addr (by omega)
      obtain ⟨adl, cl, rfl⟩ := hCL.slice
      obtain ⟨adL, cL, rfl⟩ := hCLs.slice
      obtain ⟨gL, rfl⟩ := hCLs.addr (by omega)
      refine zp E (zAe E rfl rfl) ?_; clear E a; intro a E
      iterate 3 (refine zp E (zBw E rfl rfl rfl) ?_; clear E a; intro a E)
      iterate 3 (refine zp E (zAf E rfl rfl) ?_; clear E a; intro a E)
      refine wpList_nil ?_
      refine zAh hK ?_; clear hK; clear K
      iterate 2 (refine wp_seq_k ?_; intro K hK)
      refine zAc ?_
      refine zp E (zAe E rfl rfl) ?_; clear E a; intro a E
      refine zp E (zEg E rfl rfl) ?_; clear E a; intro a E
      refine zp E (zAe E rfl rfl) ?_; clear E a; intro a E
      refine zCa E (t := 58) rfl (rfl) (fun hb58 => ?_)
      refine zy E hb58 (zAe E rfl rfl) ?_; clear E a; intro a E
      refine zy E hb58 (zEg E rfl rfl) ?_; clear E a; intro a E
      refine zp E (zAr E rfl rfl hb58 rfl) ?_; clear E a; intro a E
      refine wpList_nil ?_
      refine zAh hK ?_; clear hK; clear K
      refine zBs E rfl (rfl) ?_
      refine wp_skip ?_
      refine zAh hK ?_; clear hK; clear K
      refine wp_seq_k ?_; intro K hK
      replace E := E.keep (e' := [(0, _), (1, _), (2, _), (3, _), (4, _), (5, _), (6, _), (16, _)]) (zAb rfl (zAb rfl (zAb rfl (zAb rfl (zAb rfl (zAb rfl (zAb rfl (zAb rfl (zAq)))))))))
      refine zAc ?_
      iterate 2 (refine zp E (zAe E rfl rfl) ?_; clear E a; intro a E)
      refine zAs E rfl rfl (by decide) rfl Tryz.func7 rfl (by kernel_rfl) rfl (zKv O _ b hb0 hbl _ (by repeat (first | exact mm1 | assumption | apply List.Mem.tail)) (hL.2.1.sub (fun Q hQ => by rw [List.mem_singleton.1 hQ]; exact (by repeat (first | exact mm1 | assumption | apply List.Mem.tail)))) (hL.2.2.sub (fun Q hQ => by rw [List.mem_singleton.1 hQ]; exact (by repeat (first | exact mm1 | assumption | apply List.Mem.tail)))) kind _ S.hp) ?_
      rintro v65 w ⟨rfl, hT⟩; clear E a; intro a E
      have S := S.all hT
      refine zp E (zAe E rfl rfl) ?_; clear E a; intro a E
      iterate 2 (refine zp E (zBw E rfl rfl rfl) ?_; clear E a; intro a E)
      refine zAo rfl (zCe E S rfl rfl (by decide) rfl rfl rfl ?_); clear E S a; intro a w b19 E S
      refine zAo rfl (zCf E S rfl rfl rfl rfl (by simp [Value.oneCell']) rfl (by repeat (first | exact pk1 | apply zAa)) (by simp) ?_); clear E S a; intro a w E S; simp only [List.take_succ_cons, List.take_zero, List.drop_succ_cons, List.drop_zero, List.cons_append, List.nil_append, List.append_nil, List.length_cons, List.length_nil, Nat.zero_add, Nat.add_zero] at S
      refine zp E (zAf E rfl rfl) ?_; clear E a; intro a E
      refine wpList_nil ?_
      refine zAh hK ?_; clear hK; clear K
      refine wp_seq_k ?_; intro K hK
      obtain ⟨sm, hsm⟩ : ∃ sm, sm = sumK kind b := ⟨_, rfl⟩
      rw [← hsm] at E S
      have hse : sm.2 = 0 ↔ (kind = 1 ∨ kind = 2) := by rw [hsm]; exact sumK_err
      refine zAc ?_
      rcases (show ((kind = 1 ∨ kind = 2) ∧ zEm 32 at_ b.length) ∨ ¬ zEm 32 at_ b.length ∨ (¬ (kind = 1 ∨ kind = 2) ∧ zEm 32 at_ b.length) by by_cases h1 : kind = 1 ∨ kind = 2 <;> by_cases h2 : zEm 32 at_ b.length <;> simp [h1, h2]) with ⟨hk12, hfit⟩ | hfit | ⟨hk12, hfit⟩
      · skip
        refine zp E (zAe E rfl rfl) ?_; clear E a; intro a E
        refine zp E (zAm E rfl rfl) ?_; clear E a; intro a E
        refine zp E (by first | exact zAg (q := 3) E rfl rfl rfl | exact zAi (q := 3) E rfl rfl rfl) ?_; clear E a; intro a E
        refine zp E (by first | exact zAn E rfl rfl rfl (S.get (by repeat (first | exact pk1 | apply zAa))) rfl | exact zAj E rfl rfl rfl (by assumption)) ?_; clear E a; intro a E
        iterate 2 (refine zp E (zAe E rfl rfl) ?_; clear E a; intro a E)
        refine zAs E rfl rfl (by decide) rfl Tryz.func8 rfl (by kernel_rfl) rfl (zIy p R C hC xs 0 hU (by omega) (by omega) hnd Lv hLv t _ vk CL hCL at_ ha hnf b _ O hb0 (by omega) 9 (by omega) hfit _ (S.hp.sel (zAd (by repeat (first | exact pk1 | apply zAa)) (zAd (by repeat (first | exact pk1 | apply zAa)) (zAd (by repeat (first | exact pk1 | apply zAa)) (zAd (by repeat (first | exact pk1 | apply zAa)) (zAd (by repeat (first | exact pk1 | apply zAa)) (zAk _)))))))) ?_
        rintro v74 w ⟨rfl, R1, C1, Lv1, hC1, hLv1, hU1, hW1, hT⟩; clear E a; intro a E
        have S := S.call (zAd (by repeat (first | exact pk1 | apply zAa)) (zAd (by repeat (first | exact pk1 | apply zAa)) (zAd (by repeat (first | exact pk1 | apply zAa)) (zAd (by repeat (first | exact pk1 | apply zAa)) (zAd (by repeat (first | exact pk1 | apply zAa)) (zAk _)))))) hT; simp only [List.cons_append, List.nil_append] at S
        refine zp E (zAf E rfl rfl) ?_; clear E a; intro a E
        refine wpList_nil ?_
        refine zAh hK ?_; clear hK; clear K
        iterate 2 (refine wp_seq_k ?_; intro K hK)
        replace E := E.keep (e' := [(0, _), (1, _), (2, _), (3, _), (4, _), (5, _), (6, _), (16, _), (19, _), (20, _), (21, _)]) (zAb rfl (zAb rfl (zAb rfl (zAb rfl (zAb rfl (zAb rfl (zAb rfl (zAb rfl (zAb rfl (zAb rfl (zAb rfl (zAq))))))))))))
        refine zAc ?_
        refine zp E (zAe E rfl rfl) ?_; clear E a; intro a E
        refine zp E (by first | exact zCq E rfl rfl rfl | exact zAx E rfl rfl rfl rfl | exact zBg E rfl rfl rfl rfl | exact zBb E rfl rfl rfl) ?_; clear E a; intro a E
        refine zp E (zAe E rfl rfl) ?_; clear E a; intro a E
        refine zCa E (t := 77) rfl ((by rw [hse.2 hk12]; rfl)) (fun hb77 => ?_)
        refine zy E hb77 (zAe E rfl rfl) ?_; clear E a; intro a E
        refine zy E hb77 (by first | exact zCq E rfl rfl rfl | exact zAx E rfl rfl rfl rfl | exact zBg E rfl rfl rfl rfl | exact zBb E rfl rfl rfl) ?_; clear E a; intro a E
        refine zp E (zAr E rfl rfl hb77 rfl) ?_; clear E a; intro a E
        refine wpList_nil ?_
        refine zAh hK ?_; clear hK; clear K
        refine zBs E rfl (rfl) ?_
        refine wp_skip ?_
        refine zAh hK ?_; clear hK; clear K
        iterate 2 (refine wp_seq_k ?_; intro K hK)
        obtain ⟨f1, f2, f3, f4⟩ := id hfit
        obtain ⟨bn, hbn⟩ : ∃ bn : Nat, zDm b.length = bn := ⟨(zDm b.length).toNat, by omega⟩
        have hnv := zDx (n := b.length) (by omega) (by omega)
        have hck : chkK kind sm.1 b = true := by rw [hsm]; exact chkK_self hk12 b
        have hbnt : (zDm b.length).toNat = bn := by omega
        have hkl : kk < xs.length := by omega
        refine zAc ?_
        refine zp E (zAf E rfl rfl) ?_; clear E a; intro a E
        refine wpList_nil ?_
        refine zAh hK ?_; clear hK; clear K
        refine wp_block ?_
        refine wp_loop_ghost (fun (m : Nat) (a : Act) (w' : World) => ∃ (i : Nat) (R : Rk) (C Lv : zAu), m = nn - i ∧ i ≤ nn ∧ RkC p R C ∧ LvC (lvs xs) Lv ∧ Spoilt R xs (274 + at_).toNat b (chkK kind sm.1) kk i ∧ St w0 [O] w' [[(x, rigcl p (.slice (some ⟨gD, 0, none⟩) xs.length cD) (.slice (some ⟨gL, 0, none⟩) xs.length cL) (ptr t) v4 v5 v6 v7)], [(b19, cel [.int .u64 sm.1.a, .int .u64 sm.1.b, .int .u64 sm.1.c, .int .u64 sm.1.d] 31)], C, Lv, [(t, mtcl (.slice adl xs.length cl) vk 32)], CL, CD, CLs, O] ∧ Fr a 287 [(0, .int .i64 nn), (1, .int .i64 kk), (2, .int .i64 at_), (3, .slice adb b.length cb), (4, .int .i64 kind), (5, .slice adm ms.length cm), (6, .slice add ds.length cd), (16, ptr x), (19, ptr b19), (22, .int .i64 i)]) (nn - 0) ?_ ?_
        · exact ⟨0, R1, C1, Lv1, rfl, by omega, hC1, hLv1, ⟨hU1, fun h => hW1 _ (List.getElem_mem h), fun j h _ => hW1 _ (List.getElem_mem h), fun y hy c hc _ => by rw [(hW1 y hy).2] at hc; cases hc; rfl⟩, S.only (zAd (by repeat (first | exact pk1 | apply zAa)) (zAd (by repeat (first | exact pk1 | apply zAa)) (zAd (by repeat (first | exact pk1 | apply zAa)) (zAd (by repeat (first | exact pk1 | apply zAa)) (zAd (by repeat (first | exact pk1 | apply zAa)) (zAd (by repeat (first | exact pk1 | apply zAa)) (zAd (by repeat (first | exact pk1 | apply zAa)) (zAd (by repeat (first | exact pk1 | apply zAa)) (zAd (by repeat (first | exact pk1 | apply zAa)) (zAk _)))))))))), E.keep (zAb rfl (zAb rfl (zAb rfl (zAb rfl (zAb rfl (zAb rfl (zAb rfl (zAb rfl (zAb rfl (zAb rfl zAq))))))))))⟩
        clear E; clear a; (try clear S); rintro m a w ⟨i, R, C, Lv, rfl, hi, hC, hLv, hSp, S, E⟩
        iterate 2 (refine wp_seq_k ?_; intro K hK)
        refine zAc ?_
        iterate 2 (refine zp E (zAe E rfl rfl) ?_; clear E a; intro a E)
        refine zp E (zCd E rfl rfl rfl) ?_; clear E a; intro a E
        refine wpList_nil ?_
        refine zAh hK ?_; clear hK; clear K
        refine zBl E rfl (fun hb => ?_) (fun hb => ?_)
        · replace hb := Nrm.nrm hb
          refine wp_skip ?_
          refine zAh hK ?_; clear hK; clear K
          refine wp_seq_k ?_; intro K hK
          refine wp_block ?_
          iterate 2 (refine wp_seq_k ?_; intro K hK)
          refine zAc ?_
          iterate 2 (refine zp E (zAe E rfl rfl) ?_; clear E a; intro a E)
          refine zp E (by first | exact zCg E rfl rfl rfl | exact zAv E rfl rfl rfl rfl | exact zBc E rfl rfl rfl rfl | exact zAw E rfl rfl rfl) ?_; clear E a; intro a E
          refine wpList_nil ?_
          refine zAh hK ?_; clear hK; clear K
          refine zBl E rfl (fun hb => ?_) (fun hb => ?_)
          · replace hb := Nrm.nrm hb
            have hik : i = kk := (by omega)
            refine wp_exit ?_
            refine zBd ?_; clear hK; clear K
            refine zCl ?_
            refine zAh hK ?_; clear hK; clear K
            refine zAc ?_
            refine zp E (zAe E rfl rfl) ?_; clear E a; intro a E
            refine zp E (zBu E rfl rfl rfl (w_in (by omega))) ?_; clear E a; intro a E
            refine zp E (zAf E rfl rfl) ?_; clear E a; intro a E
            refine wpList_nil ?_
            refine zBe ?_
            exact ⟨_, by omega, i + 1, R, C, Lv, rfl, by omega, hC, hLv, hSp.next, S.only (zAd (by repeat (first | exact pk1 | apply zAa)) (zAd (by repeat (first | exact pk1 | apply zAa)) (zAd (by repeat (first | exact pk1 | apply zAa)) (zAd (by repeat (first | exact pk1 | apply zAa)) (zAd (by repeat (first | exact pk1 | apply zAa)) (zAd (by repeat (first | exact pk1 | apply zAa)) (zAd (by repeat (first | exact pk1 | apply zAa)) (zAd (by repeat (first | exact pk1 | apply zAa)) (zAd (by repeat (first | exact pk1 | apply zAa)) (zAk _)))))))))), E.keep (zAb rfl (zAb rfl (zAb rfl (zAb rfl (zAb rfl (zAb rfl (zAb rfl (zAb rfl (zAb rfl (zAb rfl zAq))))))))))⟩
          · replace hb := Nrm.nrm hb
            have hik : i ≠ kk := (by omega)
            refine wp_skip ?_
            refine zAh hK ?_; clear hK; clear K
            refine wp_seq_k ?_; intro K hK
            have hil : i < xs.length := by omega
            have hcellD : (xs.map fun y => ptr y.2)[i]? = some (ptr xs[i].2) := by rw [List.getElem?_map, List.getElem?_eq_getElem hil]; rfl
            have hcellL : (xs.map fun y => ptr y.1)[i]? = some (ptr xs[i].1) := by rw [List.getElem?_map, List.getElem?_eq_getElem hil]; rfl
            have hmi : xs[i] ∈ xs := List.getElem_mem hil
            obtain ⟨hfl, hrd⟩ := hSp.rest i hil (Nat.le_refl _)
            refine zEw (fun (a : Act) (w' : World) => ∃ bt : Bool, St w0 [O] w' [[(x, rigcl p (.slice (some ⟨gD, 0, none⟩) xs.length cD) (.slice (some ⟨gL, 0, none⟩) xs.length cL) (ptr t) v4 v5 v6 v7)], [(b19, cel [.int .u64 sm.1.a, .int .u64 sm.1.b, .int .u64 sm.1.c, .int .u64 sm.1.d] 31)], C, Lv, [(t, mtcl (.slice adl xs.length cl) vk 32)], CL, CD, CLs, O] ∧ Fr a 287 [(0, .int .i64 nn), (1, .int .i64 kk), (2, .int .i64 at_), (3, .slice adb b.length cb), (4, .int .i64 kind), (5, .slice adm ms.length cm), (6, .slice add ds.length cd), (16, ptr x), (19, ptr b19), (22, .int .i64 i), (127, .bool bt)]) ?_ ?_
            · skip
              refine zAc ?_
              iterate 2 (refine zp E (zAe E rfl rfl) ?_; clear E a; intro a E)
              refine zp E (by first | exact zBz E rfl rfl rfl | exact zAy E rfl rfl rfl | exact zAt E rfl rfl rfl) ?_; clear E a; intro a E
              refine zp E (zCd E rfl rfl rfl) ?_; clear E a; intro a E
              refine zp E (zAe E rfl rfl) ?_; clear E a; intro a E
              refine zAz E (t := 122) rfl (fun hb122 => ?_) (fun hb122 => ?_)
              · have hb122n := hb122; replace hb122n := Nrm.nrm hb122n
                have hid : i < ds.length := (by omega); obtain ⟨gd, od, rfl⟩ := hd.addr (by omega)
                iterate 2 (refine zy E hb122 (zAe E rfl rfl) ?_; clear E a; intro a E)
                refine zy E hb122 (zBh (i := i) E rfl rfl rfl rfl rfl rfl (by omega)) ?_; clear E a; intro a E
                refine zy E hb122 (zAj E rfl rfl rfl (hd.cells (S.stab.at (by repeat (first | exact mm1 | assumption | apply List.Mem.tail))) rfl i (.bool ds[i]) (by rw [List.getElem?_map, List.getElem?_eq_getElem hid]; rfl))) ?_; clear E a; intro a E
                refine zp E (zAl E rfl rfl hb122 rfl) ?_; clear E a; intro a E
                refine wpList_nil ?_
                refine zBn ?_
                exact ⟨_, S, E.keep (zAb rfl (zAb rfl (zAb rfl (zAb rfl (zAb rfl (zAb rfl (zAb rfl (zAb rfl (zAb rfl (zAb rfl (zAb rfl zAq)))))))))))⟩
              · have hb122n := hb122; replace hb122n := Nrm.nrm hb122n
                skip
                iterate 4 (refine zn E hb122 ?_; clear E a; intro a E)
                refine zp E (zAr E rfl rfl hb122 rfl) ?_; clear E a; intro a E
                refine wpList_nil ?_
                refine zBn ?_
                exact ⟨_, S, E.keep (zAb rfl (zAb rfl (zAb rfl (zAb rfl (zAb rfl (zAb rfl (zAb rfl (zAb rfl (zAb rfl (zAb rfl (zAb rfl zAq)))))))))))⟩
            · clear E S a; intro a w J; obtain ⟨bt2, S, E⟩ := J
              refine zAh hK ?_; clear hK; clear K
              refine zBl E rfl (fun hb => ?_) (fun hb => ?_)
              · replace hb := Nrm.nrm hb
                refine zAc ?_
                refine zp E (zAe E rfl rfl) ?_; clear E a; intro a E
                refine zp E (zAm E rfl rfl) ?_; clear E a; intro a E
                refine zp E (by first | exact zAg (q := 1) E rfl rfl rfl | exact zAi (q := 1) E rfl rfl rfl) ?_; clear E a; intro a E
                refine zp E (by first | exact zAn E rfl rfl rfl (S.get (by repeat (first | exact pk1 | apply zAa))) rfl | exact zAj E rfl rfl rfl (by assumption)) ?_; clear E a; intro a E
                refine zp E (zAe E rfl rfl) ?_; clear E a; intro a E
                refine zp E (zBh (i := i) E rfl rfl rfl rfl rfl rfl (by omega)) ?_; clear E a; intro a E
                refine zp E (zAj E rfl rfl rfl (hCD.rd.cells (S.stab.at (by repeat (first | exact mm1 | assumption | apply List.Mem.tail))) rfl i _ hcellD)) ?_; clear E a; intro a E
                refine zAs E rfl rfl (by decide) rfl Tryz.func9 rfl (by kernel_rfl) rfl (fail_in p R C hC xs 40 hSp.up xs[i] hmi _ (S.hp.sel (zAd (by repeat (first | exact pk1 | apply zAa)) (zAk _)))) ?_
                rintro v135 w ⟨C2, hC2, hT⟩; clear E a; intro a E
                have S := S.call1 (zAd (by repeat (first | exact pk1 | apply zAa)) (zAk _)) hT; obtain ⟨hU2, hK2⟩ := hSp.up.fail hmi
                refine wpList_nil ?_
                refine zBf ?_
                refine zAh hK ?_; clear hK; clear K
                refine zAc ?_
                refine zp E (zAe E rfl rfl) ?_; clear E a; intro a E
                refine zp E (zBu E rfl rfl rfl (w_in (by omega))) ?_; clear E a; intro a E
                refine zp E (zAf E rfl rfl) ?_; clear E a; intro a E
                refine wpList_nil ?_
                refine zBe ?_
                exact ⟨_, by omega, i + 1, _, C2, Lv, rfl, by omega, hC2, hLv, hSp.step hnd hil hik hU2 (fun x hx q => by rw [hK2 x hx, if_neg q]) (fun c hc _ => by rw [rdK_failed (by rw [hK2 _ hmi, if_pos rfl])] at hc; cases hc), S.only (zAd (by repeat (first | exact pk1 | apply zAa)) (zAd (by repeat (first | exact pk1 | apply zAa)) (zAd (by repeat (first | exact pk1 | apply zAa)) (zAd (by repeat (first | exact pk1 | apply zAa)) (zAd (by repeat (first | exact pk1 | apply zAa)) (zAd (by repeat (first | exact pk1 | apply zAa)) (zAd (by repeat (first | exact pk1 | apply zAa)) (zAd (by repeat (first | exact pk1 | apply zAa)) (zAd (by repeat (first | exact pk1 | apply zAa)) (zAk _)))))))))), E.keep (zAb rfl (zAb rfl (zAb rfl (zAb rfl (zAb rfl (zAb rfl (zAb rfl (zAb rfl (zAb rfl (zAb rfl zAq))))))))))⟩
              · replace hb := Nrm.nrm hb
                refine wp_seq_k ?_; intro K hK
                refine zAc ?_
                iterate 2 (refine zp E (zAe E rfl rfl) ?_; clear E a; intro a E)
                refine zp E (by first | exact zBz E rfl rfl rfl | exact zAy E rfl rfl rfl | exact zAt E rfl rfl rfl) ?_; clear E a; intro a E
                refine zp E (zCd E rfl rfl rfl) ?_; clear E a; intro a E
                refine wpList_nil ?_
                refine zAh hK ?_; clear hK; clear K
                refine zBl E rfl (fun hb => ?_) (fun hb => ?_)
                · replace hb := Nrm.nrm hb
                  skip
                  refine wp_seq_k ?_; intro K hK
                  have him : i < ms.length := by omega
                  have hmr := hm.2 _ (List.getElem_mem him)
                  obtain ⟨mv, hmv⟩ : ∃ mv, mv = (ms[i]'him).1 := ⟨_, rfl⟩
                  obtain ⟨mk, hmk⟩ : ∃ mk, mk = (ms[i]'him).2 := ⟨_, rfl⟩
                  have hcellM : (ms.map (·.1))[i]? = some mv := by rw [hmv]; simp [him]
                  rw [← hmv, ← hmk] at hmr
                  obtain ⟨adp, cp, rfl⟩ := hmr.slice
                  obtain ⟨gm, om, rfl⟩ := hm.1.addr (by omega)
                  refine zDt S (.ofL [(0, 0), (1, 0), (2, 0), (3, 0), (4, 0), (5, 0), (6, 0), (7, 0), (8, 0), (9, 0), (10, 0), (11, 0), (12, 0), (13, 3)]) [[(x, rigcl p (.slice (some ⟨gD, 0, none⟩) xs.length cD) (.slice (some ⟨gL, 0, none⟩) xs.length cL) (ptr t) v4 v5 v6 v7)], CD, O] (fun h => h.sub (by first | (simp; done) | (simp +contextual; done) | (simp [*]; done))) (by kernel_rfl) (by kernel_rfl) ?_
                  clear S; intro w S
                  refine zm E rfl (fun w h => zAe E rfl rfl) ?_; clear E a; intro a E
                  refine zm E rfl (fun w h => zAm E rfl rfl) ?_; clear E a; intro a E
                  refine zm E rfl (fun w h => by first | exact zAg (q := 1) E rfl rfl rfl | exact zAi (q := 1) E rfl rfl rfl) ?_; clear E a; intro a E
                  refine zm E rfl (fun w h => by first | exact zAn E rfl rfl rfl (h.one (by repeat (first | exact mm1 | assumption | apply List.Mem.tail))) rfl | exact zAj E rfl rfl rfl (by assumption)) ?_; clear E a; intro a E
                  refine zm E rfl (fun w h => zAe E rfl rfl) ?_; clear E a; intro a E
                  refine zm E rfl (fun w h => zBh (i := i) E rfl rfl rfl rfl rfl rfl (by omega)) ?_; clear E a; intro a E
                  refine zm E rfl (fun w h => zAj E rfl rfl rfl (hCD.rd.cells (h.at (by repeat (first | exact mm1 | assumption | apply List.Mem.tail))) rfl i _ hcellD)) ?_; clear E a; intro a E
                  refine zm E rfl (fun w h => zAe E rfl rfl) ?_; clear E a; intro a E
                  refine zm E rfl (fun w h => zBu E rfl rfl rfl (w_in (by omega))) ?_; clear E a; intro a E
                  iterate 2 (refine zm E rfl (fun w h => zAe E rfl rfl) ?_; clear E a; intro a E)
                  refine zm E rfl (fun w h => zBh (i := i) E rfl rfl rfl rfl rfl rfl (by omega)) ?_; clear E a; intro a E
                  refine zm E rfl (fun w h => zAj E rfl rfl rfl (hm.1.cells (h.at (by repeat (first | exact mm1 | assumption | apply List.Mem.tail))) rfl i _ hcellM)) ?_; clear E a; intro a E
                  refine zDi E rfl rfl rfl (by decide) rfl Tryz.func10 rfl (by kernel_rfl) rfl (zIx p R C hC xs 40 hSp.up xs[i] hmi (274 + at_) _ mk O hmr _ (S.hp.sel (zAd (by repeat (first | exact pk1 | apply zAa)) (zAd (by repeat (first | exact pk1 | apply zAa)) (zAk _))))) ?_
                  rintro v153 w ⟨_, C2, hC2, hT⟩; clear E a; intro a E
                  have S := S.call2 (zAd (by repeat (first | exact pk1 | apply zAa)) (zAd (by repeat (first | exact pk1 | apply zAa)) (zAk _))) hT; obtain ⟨hU2, hK2⟩ := hSp.up.corrupt hmi (274 + at_) mk
                  refine zBr ?_
                  refine zAh hK ?_; clear hK; clear K
                  refine wp_seq_k ?_; intro K hK
                  obtain ⟨R2, hR2⟩ : ∃ R2, R2 = R.corrupt (dkOf R xs[i].2) (274 + at_) mk := ⟨_, rfl⟩
                  rw [← hR2] at hC2 hU2 hK2
                  have hf2 : (dkOf R2 xs[i].2).failed = false := (hK2 _ hmi).1.trans hfl
                  have hrd2 := zKw hU2.on.off (y := dkOf R2 xs[i].2) (by rw [hU2.nw _ hmi, hU2.pl _ hmi]) (at_ := at_) (n := bn) (by unfold zHy; rw [hU2.size _ hmi]; omega)
                  obtain ⟨cc, hcc⟩ : ∃ cc, cc = ((dkOf R2 xs[i].2).now.drop ((274 + at_).toNat * 128)).take (bn * 128) := ⟨_, rfl⟩
                  have hcl : cc.length = bn * 128 := by rw [hcc, List.length_take, List.length_drop, hU2.nw _ hmi]; omega
                  rw [hf2, if_neg (by simp), ← hcc] at hrd2
                  have hctl : (cc.take b.length).length = b.length := by rw [List.length_take]; omega
                  refine zAc ?_
                  refine zp E (zAe E rfl rfl) ?_; clear E a; intro a E
                  refine zp E (zAm E rfl rfl) ?_; clear E a; intro a E
                  refine zp E (by first | exact zAg (q := 2) E rfl rfl rfl | exact zAi (q := 2) E rfl rfl rfl) ?_; clear E a; intro a E
                  refine zp E (by first | exact zAn E rfl rfl rfl (S.get (by repeat (first | exact pk1 | apply zAa))) rfl | exact zAj E rfl rfl rfl (by assumption)) ?_; clear E a; intro a E
                  refine zp E (zAe E rfl rfl) ?_; clear E a; intro a E
                  refine zp E (zBh (i := i) E rfl rfl rfl rfl rfl rfl (by omega)) ?_; clear E a; intro a E
                  refine zp E (zAj E rfl rfl rfl (hCLs.rd.cells (S.stab.at (by repeat (first | exact mm1 | assumption | apply List.Mem.tail))) rfl i _ hcellL)) ?_; clear E a; intro a E
                  iterate 2 (refine zp E (zAe E rfl rfl) ?_; clear E a; intro a E)
                  refine zp E (by first | exact zBz E rfl rfl rfl | exact zAy E rfl rfl rfl | exact zAt E rfl rfl rfl) ?_; clear E a; intro a E
                  refine zp E (zBu E rfl rfl rfl (w_in (by omega))) ?_; clear E a; intro a E
                  refine zp E (zFt E rfl rfl rfl (by first | decide | omega) (show IntKind.i64.wrap (((b.length : Int) + 127).tdiv 128) = (bn : Int) by rw [Int.tdiv_eq_ediv_of_nonneg (by omega), ← hbn, hnv]; exact w_in (by omega))) ?_; clear E a; intro a E
                  refine zAs E rfl rfl (by decide) rfl Tryz.func11 rfl (by kernel_rfl) rfl (zIl p R2 C2 hC2 (lvs xs) Lv hLv i xs[i] (zIm hil) (hU2.has _ hmi) at_ bn ha _ (S.hp.sel (zAd (by repeat (first | exact pk1 | apply zAa)) (zAd (by repeat (first | exact pk1 | apply zAa)) (zAk _))))) ?_
                  rintro v167 w ⟨vb, Cb, Lj, rfl, hCb, hLj, hT⟩; clear E a; intro a E
                  have S := S.call3 (zAd (by repeat (first | exact pk1 | apply zAa)) (zAd (by repeat (first | exact pk1 | apply zAa)) (zAk _))) hT; rw [hrd2] at E hCb; have hCb : Buf Cb 5 1 vb cc.length (byt cc) := hCb
                  obtain ⟨adc, cpc, rfl⟩ := hCb.slice
                  obtain ⟨gc, rfl⟩ := hCb.addr (by omega)
                  have hCp2 : Buf Cb 5 1 (.slice (some ⟨gc, 0, none⟩) b.length cpc) (cc.take b.length).length (byt (cc.take b.length)) := by rw [hctl]; exact Buf.pre hCb (by omega)
                  have hcap := hCb.cap_le
                  refine zp E (zAe E rfl rfl) ?_; clear E a; intro a E
                  iterate 2 (refine zp E (zBw E rfl rfl rfl) ?_; clear E a; intro a E)
                  iterate 2 (refine zp E (zAf E rfl rfl) ?_; clear E a; intro a E)
                  refine wpList_nil ?_
                  refine zAh hK ?_; clear hK; clear K
                  iterate 2 (refine wp_seq_k ?_; intro K hK)
                  refine zAc ?_
                  refine zp E (zAe E rfl rfl) ?_; clear E a; intro a E
                  refine zp E (by first | exact zBz E rfl rfl rfl | exact zAy E rfl rfl rfl | exact zAt E rfl rfl rfl) ?_; clear E a; intro a E
                  refine zp E (zAe E rfl rfl) ?_; clear E a; intro a E
                  refine zp E (by first | exact zBz E rfl rfl rfl | exact zAy E rfl rfl rfl | exact zAt E rfl rfl rfl) ?_; clear E a; intro a E
                  refine zp E (zCd E rfl rfl rfl) ?_; clear E a; intro a E
                  refine wpList_nil ?_
                  refine zAh hK ?_; clear hK; clear K
                  refine zBs E rfl ((by simp; omega)) ?_
                  refine wp_skip ?_
                  refine zAh hK ?_; clear hK; clear K
                  refine wp_seq_k ?_; intro K hK
                  refine zBm S (.ofL [(0, 0), (1, 0), (2, 0), (3, 0), (4, 0), (5, 0), (6, 3), (7, 2)]) (by kernel_rfl) (by kernel_rfl) ?_
                  clear S; intro w S
                  refine zm E rfl (fun w h => zAe E rfl rfl) ?_; clear E a; intro a E
                  refine zm E rfl (fun w h => zBx (vs := [_, _, _, _]) E rfl rfl rfl (h.one (by repeat (first | exact mm1 | assumption | apply List.Mem.tail))) rfl rfl) ?_; clear E a; intro a E
                  iterate 2 (refine zm E rfl (fun w h => zAe E rfl rfl) ?_; clear E a; intro a E)
                  refine zm E rfl (fun w h => by first | exact zBz E rfl rfl rfl | exact zAy E rfl rfl rfl | exact zAt E rfl rfl rfl) ?_; clear E a; intro a E
                  refine zm E rfl (fun w h => zEt (s := 1) (hi := b.length) E rfl rfl rfl rfl rfl rfl (by omega)) ?_; clear E a; intro a E
                  rw [zGj] at E
                  refine zDi E rfl rfl rfl (by decide) rfl Tryz.func12 rfl (by kernel_rfl) rfl (dchkK_ret Cb _ (cc.take b.length) hCp2.rd (by omega) _ (by repeat (first | exact mm1 | assumption | apply List.Mem.tail)) (hL.2.1.sub (fun Q hQ => by rw [List.mem_singleton.1 hQ]; exact (by repeat (first | exact mm1 | assumption | apply List.Mem.tail)))) (hL.2.2.sub (fun Q hQ => by rw [List.mem_singleton.1 hQ]; exact (by repeat (first | exact mm1 | assumption | apply List.Mem.tail)))) kind sm.1 _ S.hp) ?_
                  rintro v181 w ⟨rfl, hT⟩; clear E a; intro a E
                  have S := S.all hT
                  refine zCi E rfl rfl rfl (by decide) (fun w => zAf E rfl rfl) ?_; clear E a; intro a E
                  refine zBr ?_
                  refine zAh hK ?_; clear hK; clear K
                  refine wp_seq_k ?_; intro K hK
                  refine zEw (fun (a : Act) (w' : World) => ∃ bt : Bool, (bt = false → chkK kind sm.1 (cc.take b.length) = true → cc.take b.length = b) ∧ St w0 [O] w' [[(x, rigcl p (.slice (some ⟨gD, 0, none⟩) xs.length cD) (.slice (some ⟨gL, 0, none⟩) xs.length cL) (ptr t) v4 v5 v6 v7)], [(b19, cel [.int .u64 sm.1.a, .int .u64 sm.1.b, .int .u64 sm.1.c, .int .u64 sm.1.d] 31)], C2, Lj, [(t, mtcl (.slice adl xs.length cl) vk 32)], CL, CD, CLs, O] ∧ Fr a 287 [(0, .int .i64 nn), (1, .int .i64 kk), (2, .int .i64 at_), (3, .slice adb b.length cb), (4, .int .i64 kind), (5, .slice (some ⟨gm, om, none⟩) ms.length cm), (6, .slice add ds.length cd), (16, ptr x), (19, ptr b19), (22, .int .i64 i), (192, .bool bt)]) ?_ ?_
                  · skip
                    refine zBm S (.ofL [(0, 0), (1, 0), (2, 0), (3, 0), (4, 0), (5, 0), (6, 0), (7, 0), (8, 0), (9, 0), (10, 0)]) (by kernel_rfl) (by kernel_rfl) ?_
                    clear S; intro w S
                    iterate 2 (refine zm E rfl (fun w h => zAe E rfl rfl) ?_; clear E a; intro a E)
                    refine zAz E (t := 183) rfl (fun hb183 => ?_) (fun hb183 => ?_)
                    · have hb183n := hb183; replace hb183n := Nrm.nrm hb183n
                      iterate 2 (refine zAp E rfl rfl rfl rfl rfl hb183 rfl (by decide) (fun w h => zAe E rfl rfl) ?_; clear E a; intro a E)
                      refine zAp E rfl rfl rfl rfl rfl hb183 rfl (by decide) (fun w h => by first | exact zBz E rfl rfl rfl | exact zAy E rfl rfl rfl | exact zAt E rfl rfl rfl) ?_; clear E a; intro a E
                      refine zAp E rfl rfl rfl rfl rfl hb183 rfl (by decide) (fun w h => zEt (s := 1) (hi := b.length) E rfl rfl rfl rfl rfl rfl (by omega)) ?_; clear E a; intro a E
                      rw [zGj] at E
                      refine zAp E rfl rfl rfl rfl rfl hb183 rfl (by decide) (fun w h => zCz E rfl rfl rfl rfl rfl (bs := cc.take b.length) hCp2.rd (h.at (by repeat (first | exact mm1 | assumption | apply List.Mem.tail)))) ?_; clear E a; intro a E
                      refine zAp E rfl rfl rfl rfl rfl hb183 rfl (by decide) (fun w h => zAe E rfl rfl) ?_; clear E a; intro a E
                      refine zAp E rfl rfl rfl rfl rfl hb183 rfl (by decide) (fun w h => zCz E rfl rfl rfl rfl rfl (bs := b) hb0 (h.at (by repeat (first | exact mm1 | assumption | apply List.Mem.tail)))) ?_; clear E a; intro a E
                      refine zAp E rfl rfl rfl rfl rfl hb183 rfl (by decide) (fun w h => by first | exact zCq E rfl rfl rfl | exact zAx E rfl rfl rfl rfl | exact zBg E rfl rfl rfl rfl | exact zBb E rfl rfl rfl) ?_; clear E a; intro a E
                      refine zm E rfl (fun w h => zAl E rfl rfl hb183 rfl) ?_; clear E a; intro a E
                      refine zBr ?_
                      refine zBn ?_
                      exact ⟨_, fun q _ => (by simpa using q), S.only (zAd (by repeat (first | exact pk1 | apply zAa)) (zAd (by repeat (first | exact pk1 | apply zAa)) (zAd (by repeat (first | exact pk1 | apply zAa)) (zAd (by repeat (first | exact pk1 | apply zAa)) (zAd (by repeat (first | exact pk1 | apply zAa)) (zAd (by repeat (first | exact pk1 | apply zAa)) (zAd (by repeat (first | exact pk1 | apply zAa)) (zAd (by repeat (first | exact pk1 | apply zAa)) (zAd (by repeat (first | exact pk1 | apply zAa)) (zAk _)))))))))), E.keep (zAb rfl (zAb rfl (zAb rfl (zAb rfl (zAb rfl (zAb rfl (zAb rfl (zAb rfl (zAb rfl (zAb rfl (zAb rfl zAq)))))))))))⟩
                    · have hb183n := hb183; replace hb183n := Nrm.nrm hb183n
                      iterate 8 (refine zBp E rfl rfl rfl rfl rfl hb183 rfl (by decide) ?_; clear E a; intro a E)
                      refine zm E rfl (fun w h => zAr E rfl rfl hb183 rfl) ?_; clear E a; intro a E
                      refine zBr ?_
                      refine zBn ?_
                      exact ⟨_, fun _ q => absurd q (by simp_all), S.only (zAd (by repeat (first | exact pk1 | apply zAa)) (zAd (by repeat (first | exact pk1 | apply zAa)) (zAd (by repeat (first | exact pk1 | apply zAa)) (zAd (by repeat (first | exact pk1 | apply zAa)) (zAd (by repeat (first | exact pk1 | apply zAa)) (zAd (by repeat (first | exact pk1 | apply zAa)) (zAd (by repeat (first | exact pk1 | apply zAa)) (zAd (by repeat (first | exact pk1 | apply zAa)) (zAd (by repeat (first | exact pk1 | apply zAa)) (zAk _)))))))))), E.keep (zAb rfl (zAb rfl (zAb rfl (zAb rfl (zAb rfl (zAb rfl (zAb rfl (zAb rfl (zAb rfl (zAb rfl (zAb rfl zAq)))))))))))⟩
                  · clear E S a; intro a w J; obtain ⟨bt3, hbq, S, E⟩ := J
                    refine zAh hK ?_; clear hK; clear K
                    refine zBl E rfl (fun hb => ?_) (fun hb => ?_)
                    · replace hb := Nrm.nrm hb
                      skip
                      refine wp_seq_k ?_; intro K hK
                      refine zAc ?_
                      refine zp E (zAf E rfl rfl) ?_; clear E a; intro a E
                      refine wpList_nil ?_
                      refine zAh hK ?_; clear hK; clear K
                      refine wp_ret ?_
                      refine zDy ?_
                      refine zBi ?_; clear hK; clear K
                      refine zBi ?_
                      refine zDy ?_
                      refine zBi ?_; clear hK; clear K
                      refine ret1 E rfl rfl ?_
                      exact ⟨_, rfl, rfl, (S.only (Bs := [O]) (zAd (by repeat (first | exact pk1 | apply zAa)) (zAk _))).tr⟩
                    · replace hb := Nrm.nrm hb
                      skip
                      refine wp_skip ?_
                      refine zBf ?_
                      refine zAh hK ?_; clear hK; clear K
                      refine zAc ?_
                      refine zp E (zAe E rfl rfl) ?_; clear E a; intro a E
                      refine zp E (zBu E rfl rfl rfl (w_in (by omega))) ?_; clear E a; intro a E
                      refine zp E (zAf E rfl rfl) ?_; clear E a; intro a E
                      refine wpList_nil ?_
                      refine zBe ?_
                      exact ⟨_, by omega, i + 1, R2, C2, Lj, rfl, by omega, hC2, hLj, hSp.step hnd hil hik hU2 (fun x hx q => (hK2 x hx).2 q) (fun c hc hk => by rw [rdK_well hf2, hbnt, secC_take hcc] at hc; cases hc; exact hbq (by simpa using hb) hk), S.only (zAd (by repeat (first | exact pk1 | apply zAa)) (zAd (by repeat (first | exact pk1 | apply zAa)) (zAd (by repeat (first | exact pk1 | apply zAa)) (zAd (by repeat (first | exact pk1 | apply zAa)) (zAd (by repeat (first | exact pk1 | apply zAa)) (zAd (by repeat (first | exact pk1 | apply zAa)) (zAd (by repeat (first | exact pk1 | apply zAa)) (zAd (by repeat (first | exact pk1 | apply zAa)) (zAd (by repeat (first | exact pk1 | apply zAa)) (zAk _)))))))))), E.keep (zAb rfl (zAb rfl (zAb rfl (zAb rfl (zAb rfl (zAb rfl (zAb rfl (zAb rfl (zAb rfl (zAb rfl zAq))))))))))⟩
                · replace hb := Nrm.nrm hb
                  skip
                  refine wp_skip ?_
                  refine zBf ?_
                  refine zAh hK ?_; clear hK; clear K
                  refine zAc ?_
                  refine zp E (zAe E rfl rfl) ?_; clear E a; intro a E
                  refine zp E (zBu E rfl rfl rfl (w_in (by omega))) ?_; clear E a; intro a E
                  refine zp E (zAf E rfl rfl) ?_; clear E a; intro a E
                  refine wpList_nil ?_
                  refine zBe ?_
                  exact ⟨_, by omega, i + 1, R, C, Lv, rfl, by omega, hC, hLv, hSp.next, S.only (zAd (by repeat (first | exact pk1 | apply zAa)) (zAd (by repeat (first | exact pk1 | apply zAa)) (zAd (by repeat (first | exact pk1 | apply zAa)) (zAd (by repeat (first | exact pk1 | apply zAa)) (zAd (by repeat (first | exact pk1 | apply zAa)) (zAd (by repeat (first | exact pk1 | apply zAa)) (zAd (by repeat (first | exact pk1 | apply zAa)) (zAd (by repeat (first | exact pk1 | apply zAa)) (zAd (by repeat (first | exact pk1 | apply zAa)) (zAk _)))))))))), E.keep (zAb rfl (zAb rfl (zAb rfl (zAb rfl (zAb rfl (zAb rfl (zAb rfl (zAb rfl (zAb rfl (zAb rfl zAq))))))))))⟩
        · replace hb := Nrm.nrm hb
          refine wp_exit ?_
          refine zBd ?_; clear hK; clear K
          refine zBd ?_
          refine zCl ?_
          refine zAh hK ?_; clear hK; clear K
          refine wp_seq_k ?_; intro K hK
          obtain rfl : i = nn := by omega
          have hKp : Kept R xs (274 + at_).toNat b (chkK kind sm.1) xs[kk] := ⟨List.getElem_mem _, (hSp.keep hkl).2, hck, hSp.good⟩
          refine zBm S (.ofL [(0, 0), (1, 0), (2, 0), (3, 0), (4, 0), (5, 0), (6, 0), (7, 0), (8, 0), (9, 3), (10, 2), (11, 2), (12, 2), (13, 2), (14, 2)]) (by kernel_rfl) (by kernel_rfl) ?_
          clear S; intro w S
          refine zm E rfl (fun w h => zAe E rfl rfl) ?_; clear E a; intro a E
          refine zm E rfl (fun w h => zAm E rfl rfl) ?_; clear E a; intro a E
          refine zm E rfl (fun w h => by first | exact zAg (q := 3) E rfl rfl rfl | exact zAi (q := 3) E rfl rfl rfl) ?_; clear E a; intro a E
          refine zm E rfl (fun w h => by first | exact zAn E rfl rfl rfl (h.one (by repeat (first | exact mm1 | assumption | apply List.Mem.tail))) rfl | exact zAj E rfl rfl rfl (by assumption)) ?_; clear E a; intro a E
          iterate 2 (refine zm E rfl (fun w h => zAe E rfl rfl) ?_; clear E a; intro a E)
          refine zm E rfl (fun w h => by first | exact zBz E rfl rfl rfl | exact zAy E rfl rfl rfl | exact zAt E rfl rfl rfl) ?_; clear E a; intro a E
          refine zm E rfl (fun w h => zAe E rfl rfl) ?_; clear E a; intro a E
          refine zm E rfl (fun w h => zBx (vs := [_, _, _, _]) E rfl rfl rfl (h.one (by repeat (first | exact mm1 | assumption | apply List.Mem.tail))) rfl rfl) ?_; clear E a; intro a E
          refine zDi E rfl rfl rfl (by decide) rfl Tryz.func13 rfl (by kernel_rfl) rfl (mread_good p R C hC xs 40 hSp.up (by omega) (by omega) hnd Lv hLv t _ vk CL hCL at_ ha O hL.1 b hfit kind hk12 sm.1 (fun i hce => hKp.found hce) _ (S.hp.sel (zAd (by repeat (first | exact pk1 | apply zAa)) (zAd (by repeat (first | exact pk1 | apply zAa)) (zAd (by repeat (first | exact pk1 | apply zAa)) (zAd (by repeat (first | exact pk1 | apply zAa)) (zAd (by repeat (first | exact pk1 | apply zAa)) (zAk _)))))))) ?_
          rintro v203 w ⟨v26, Cg, R4, C4, Lv4, rfl, hRd, hC4, hLv4, hU4, hf4, hs4, hT⟩; clear E a; intro a E
          have S := S.call (zAd (by repeat (first | exact pk1 | apply zAa)) (zAd (by repeat (first | exact pk1 | apply zAa)) (zAd (by repeat (first | exact pk1 | apply zAa)) (zAd (by repeat (first | exact pk1 | apply zAa)) (zAd (by repeat (first | exact pk1 | apply zAa)) (zAk _)))))) hT; simp only [List.cons_append, List.nil_append] at S; obtain ⟨ad8, c8, rfl⟩ := hRd.slice; have hKp4 := hKp.after hs4
          refine zCi E rfl rfl rfl (by decide) (fun w => zAe E rfl rfl) ?_; clear E a; intro a E
          iterate 2 (refine zCi E rfl rfl rfl (by decide) (fun w => zBw E rfl rfl rfl) ?_; clear E a; intro a E)
          iterate 2 (refine zCi E rfl rfl rfl (by decide) (fun w => zAf E rfl rfl) ?_; clear E a; intro a E)
          refine zBr ?_
          refine zAh hK ?_; clear hK; clear K
          refine wp_seq_k ?_; intro K hK
          replace E := E.keep (e' := [(0, _), (2, _), (3, _), (4, _), (16, _), (19, _), (26, _), (27, _)]) (zAb rfl (zAb rfl (zAb rfl (zAb rfl (zAb rfl (zAb rfl (zAb rfl (zAb rfl (zAq)))))))))
          refine zBm S (.ofL [(0, 0), (1, 0), (2, 0), (3, 0), (4, 0), (5, 0), (6, 0), (7, 0), (8, 0), (9, 3), (10, 2), (11, 2), (12, 2), (13, 2), (14, 2)]) (by kernel_rfl) (by kernel_rfl) ?_
          clear S; intro w S
          refine zm E rfl (fun w h => zAe E rfl rfl) ?_; clear E a; intro a E
          refine zm E rfl (fun w h => zAm E rfl rfl) ?_; clear E a; intro a E
          refine zm E rfl (fun w h => by first | exact zAg (q := 3) E rfl rfl rfl | exact zAi (q := 3) E rfl rfl rfl) ?_; clear E a; intro a E
          refine zm E rfl (fun w h => by first | exact zAn E rfl rfl rfl (h.one (by repeat (first | exact mm1 | assumption | apply List.Mem.tail))) rfl | exact zAj E rfl rfl rfl (by assumption)) ?_; clear E a; intro a E
          iterate 2 (refine zm E rfl (fun w h => zAe E rfl rfl) ?_; clear E a; intro a E)
          refine zm E rfl (fun w h => by first | exact zBz E rfl rfl rfl | exact zAy E rfl rfl rfl | exact zAt E rfl rfl rfl) ?_; clear E a; intro a E
          refine zm E rfl (fun w h => zAe E rfl rfl) ?_; clear E a; intro a E
          refine zm E rfl (fun w h => zBx (vs := [_, _, _, _]) E rfl rfl rfl (h.one (by repeat (first | exact mm1 | assumption | apply List.Mem.tail))) rfl rfl) ?_; clear E a; intro a E
          refine zDi E rfl rfl rfl (by decide) rfl Tryz.func14 rfl (by kernel_rfl) rfl (zKy p R4 C4 hC4 xs 80 hU4 (by omega) (by omega) hnd Lv4 hLv4 t _ vk CL hCL at_ ha O hL.1 b hfit kind hk12 sm.1 (fun i hce => hKp4.found hce) _ (S.hp.sel (zAd (by repeat (first | exact pk1 | apply zAa)) (zAd (by repeat (first | exact pk1 | apply zAa)) (zAd (by repeat (first | exact pk1 | apply zAa)) (zAd (by repeat (first | exact pk1 | apply zAa)) (zAd (by repeat (first | exact pk1 | apply zAa)) (zAk _)))))))) ?_
          rintro v216 w ⟨n9, R5, C5, Lv5, hn9, rfl, hC5, hLv5, hU5, hf5, hs5, hq5, hT⟩; clear E a; intro a E
          have S := S.call (zAd (by repeat (first | exact pk1 | apply zAa)) (zAd (by repeat (first | exact pk1 | apply zAa)) (zAd (by repeat (first | exact pk1 | apply zAa)) (zAd (by repeat (first | exact pk1 | apply zAa)) (zAd (by repeat (first | exact pk1 | apply zAa)) (zAk _)))))) hT; simp only [List.cons_append, List.nil_append] at S
          refine zCi E rfl rfl rfl (by decide) (fun w => zAe E rfl rfl) ?_; clear E a; intro a E
          iterate 2 (refine zCi E rfl rfl rfl (by decide) (fun w => zBw E rfl rfl rfl) ?_; clear E a; intro a E)
          iterate 2 (refine zCi E rfl rfl rfl (by decide) (fun w => zAf E rfl rfl) ?_; clear E a; intro a E)
          refine zBr ?_
          refine zAh hK ?_; clear hK; clear K
          iterate 2 (refine wp_seq_k ?_; intro K hK)
          have hall5 : ∀ y ∈ xs, ∀ c, rdK R5 (274 + at_).toNat b y = some c → c = b := fun y hy c hc => by
            rcases hs5 y hy with q | q
            · rw [q] at hc; cases hc; rfl
            · rw [zFl q] at hc
              cases hcc : chkK kind sm.1 c with
              | true => exact hKp4.good y hy c hc hcc
              | false =>
                have h2 := hq5 y hy c hc hcc
                rw [zFl q, hc] at h2; cases h2; rfl
          refine zAc ?_
          refine zp E (zAe E rfl rfl) ?_; clear E a; intro a E
          refine zp E (by first | exact zCq E rfl rfl rfl | exact zAx E rfl rfl rfl rfl | exact zBg E rfl rfl rfl rfl | exact zBb E rfl rfl rfl) ?_; clear E a; intro a E
          refine zp E (zAe E rfl rfl) ?_; clear E a; intro a E
          refine zCa E (t := 221) rfl (rfl) (fun hb221 => ?_)
          refine zy E hb221 (zAe E rfl rfl) ?_; clear E a; intro a E
          refine zy E hb221 (by first | exact zCq E rfl rfl rfl | exact zAx E rfl rfl rfl rfl | exact zBg E rfl rfl rfl rfl | exact zBb E rfl rfl rfl) ?_; clear E a; intro a E
          refine zp E (zAr E rfl rfl hb221 rfl) ?_; clear E a; intro a E
          refine zp E (zAe E rfl rfl) ?_; clear E a; intro a E
          refine zCa E (t := 225) rfl (rfl) (fun hb225 => ?_)
          refine zy E hb225 (zAe E rfl rfl) ?_; clear E a; intro a E
          refine zy E hb225 (zCz E rfl rfl rfl rfl rfl (bs := b) hRd (S.stab.at (by repeat (first | exact mm1 | assumption | apply List.Mem.tail)))) ?_; clear E a; intro a E
          refine zy E hb225 (zAe E rfl rfl) ?_; clear E a; intro a E
          refine zy E hb225 (zCz E rfl rfl rfl rfl rfl (bs := b) hb0 (S.stab.at (by repeat (first | exact mm1 | assumption | apply List.Mem.tail)))) ?_; clear E a; intro a E
          refine zy E hb225 (by first | exact zCq E rfl rfl rfl | exact zAx E rfl rfl rfl rfl | exact zBg E rfl rfl rfl rfl | exact zBb E rfl rfl rfl) ?_; clear E a; intro a E
          refine zp E (zAr E rfl rfl hb225 rfl) ?_; clear E a; intro a E
          refine wpList_nil ?_
          refine zAh hK ?_; clear hK; clear K
          refine zBs E rfl ((by simp)) ?_
          refine wp_skip ?_
          refine zAh hK ?_; clear hK; clear K
          iterate 2 (refine wp_seq_k ?_; intro K hK)
          replace E := E.keep (e' := [(0, _), (2, _), (3, _), (16, _)]) (zAb rfl (zAb rfl (zAb rfl (zAb rfl (zAq)))))
          refine zAc ?_
          refine zp E (zAf E rfl rfl) ?_; clear E a; intro a E
          refine wpList_nil ?_
          refine zAh hK ?_; clear hK; clear K
          refine wp_block ?_
          refine wp_loop_ghost (fun (m : Nat) (a : Act) (w' : World) => ∃ (j : Nat) (Lj : zAu), m = i - j ∧ j ≤ i ∧ LvC (lvs xs) Lj ∧ St w0 [O] w' [[(x, rigcl p (.slice (some ⟨gD, 0, none⟩) xs.length cD) (.slice (some ⟨gL, 0, none⟩) xs.length cL) (ptr t) v4 v5 v6 v7)], C5, Lj, [(t, mtcl (.slice adl xs.length cl) vk 32)], CLs, O] ∧ Fr a 287 [(0, .int .i64 i), (2, .int .i64 at_), (3, .slice adb b.length cb), (16, ptr x), (30, .int .i64 j)]) (i - 0) ?_ ?_
          · exact ⟨0, Lv5, rfl, by omega, hLv5, S.only (zAd (by repeat (first | exact pk1 | apply zAa)) (zAd (by repeat (first | exact pk1 | apply zAa)) (zAd (by repeat (first | exact pk1 | apply zAa)) (zAd (by repeat (first | exact pk1 | apply zAa)) (zAd (by repeat (first | exact pk1 | apply zAa)) (zAd (by repeat (first | exact pk1 | apply zAa)) (zAk _))))))), E.keep (zAb rfl (zAb rfl (zAb rfl (zAb rfl (zAb rfl zAq)))))⟩
          clear E; clear a; (try clear S); rintro m a w ⟨j, Lj, rfl, hj, hLj, S, E⟩
          iterate 2 (refine wp_seq_k ?_; intro K hK)
          refine zAc ?_
          iterate 2 (refine zp E (zAe E rfl rfl) ?_; clear E a; intro a E)
          refine zp E (zCd E rfl rfl rfl) ?_; clear E a; intro a E
          refine wpList_nil ?_
          refine zAh hK ?_; clear hK; clear K
          refine zBl E rfl (fun hb => ?_) (fun hb => ?_)
          · replace hb := Nrm.nrm hb
            refine wp_skip ?_
            refine zAh hK ?_; clear hK; clear K
            refine wp_seq_k ?_; intro K hK
            refine wp_block ?_
            refine wp_seq_k ?_; intro K hK
            have hil : j < xs.length := by omega
            have hcellL : (xs.map fun y => ptr y.1)[j]? = some (ptr xs[j].1) := by rw [List.getElem?_map, List.getElem?_eq_getElem hil]; rfl
            have hmi : xs[j] ∈ xs := List.getElem_mem hil
            have hrd2 := zKw hU5.on.off (y := dkOf R5 xs[j].2) (by rw [hU5.nw _ hmi, hU5.pl _ hmi]) (at_ := at_) (n := bn) (by unfold zHy; rw [hU5.size _ hmi]; omega)
            obtain ⟨cc, hcc⟩ : ∃ cc, cc = ((dkOf R5 xs[j].2).now.drop ((274 + at_).toNat * 128)).take (bn * 128) := ⟨_, rfl⟩
            have hcl : cc.length = bn * 128 := by rw [hcc, List.length_take, List.length_drop, hU5.nw _ hmi]; omega
            have hctl : (cc.take b.length).length = b.length := by rw [List.length_take]; omega
            rw [← hcc] at hrd2
            refine zAc ?_
            rcases hfd : (dkOf R5 xs[j].2).failed with _ | _
            · skip
              rw [hfd, if_neg (by simp)] at hrd2; have hcb : cc.take b.length = b := hall5 _ hmi _ (by rw [rdK_well hfd, hbnt, secC_take hcc])
              refine zp E (zAe E rfl rfl) ?_; clear E a; intro a E
              refine zp E (zAm E rfl rfl) ?_; clear E a; intro a E
              refine zp E (by first | exact zAg (q := 2) E rfl rfl rfl | exact zAi (q := 2) E rfl rfl rfl) ?_; clear E a; intro a E
              refine zp E (by first | exact zAn E rfl rfl rfl (S.get (by repeat (first | exact pk1 | apply zAa))) rfl | exact zAj E rfl rfl rfl (by assumption)) ?_; clear E a; intro a E
              refine zp E (zAe E rfl rfl) ?_; clear E a; intro a E
              refine zp E (zBh (i := j) E rfl rfl rfl rfl rfl rfl (by omega)) ?_; clear E a; intro a E
              refine zp E (zAj E rfl rfl rfl (hCLs.rd.cells (S.stab.at (by repeat (first | exact mm1 | assumption | apply List.Mem.tail))) rfl j _ hcellL)) ?_; clear E a; intro a E
              iterate 2 (refine zp E (zAe E rfl rfl) ?_; clear E a; intro a E)
              refine zp E (by first | exact zBz E rfl rfl rfl | exact zAy E rfl rfl rfl | exact zAt E rfl rfl rfl) ?_; clear E a; intro a E
              refine zp E (zBu E rfl rfl rfl (w_in (by omega))) ?_; clear E a; intro a E
              refine zp E (zFt E rfl rfl rfl (by first | decide | omega) (show IntKind.i64.wrap (((b.length : Int) + 127).tdiv 128) = (bn : Int) by rw [Int.tdiv_eq_ediv_of_nonneg (by omega), ← hbn, hnv]; exact w_in (by omega))) ?_; clear E a; intro a E
              refine zAs E rfl rfl (by decide) rfl Tryz.func11 rfl (by kernel_rfl) rfl (zIl p R5 C5 hC5 (lvs xs) Lj hLj j xs[j] (zIm hil) (hU5.has _ hmi) at_ bn ha _ (S.hp.sel (zAd (by repeat (first | exact pk1 | apply zAa)) (zAd (by repeat (first | exact pk1 | apply zAa)) (zAk _))))) ?_
              rintro v250 w ⟨vb, Cb, Lj2, rfl, hCb, hLj2, hT⟩; clear E a; intro a E
              have S := S.call3 (zAd (by repeat (first | exact pk1 | apply zAa)) (zAd (by repeat (first | exact pk1 | apply zAa)) (zAk _))) hT; rw [hrd2] at E hCb; obtain ⟨adc, cpc, rfl⟩ := hCb.slice
              refine zp E (zAe E rfl rfl) ?_; clear E a; intro a E
              iterate 2 (refine zp E (zBw E rfl rfl rfl) ?_; clear E a; intro a E)
              iterate 2 (refine zp E (zAf E rfl rfl) ?_; clear E a; intro a E)
              refine wpList_nil ?_
              refine zAh hK ?_; clear hK; clear K
              refine wp_seq_k ?_; intro K hK
              have hCb : Buf Cb 5 1 (.slice adc cc.length cpc) cc.length (byt cc) := hCb
              obtain ⟨gc, rfl⟩ := hCb.addr (by omega)
              have hCp2 : Buf Cb 5 1 (.slice (some ⟨gc, 0, none⟩) b.length cpc) (cc.take b.length).length (byt (cc.take b.length)) := by rw [hctl]; exact Buf.pre hCb (by omega)
              rw [hcb] at hCp2
              have hcap := hCb.cap_le
              refine zBm S (.ofL [(0, 0), (1, 0), (2, 0), (3, 0), (4, 0), (5, 0), (6, 0), (7, 0), (8, 0), (9, 0), (10, 0), (11, 0), (12, 0), (13, 0), (14, 0), (15, 0), (16, 0), (17, 0), (18, 0), (19, 0), (20, 0), (21, 0), (22, 0), (23, 0), (24, 0), (25, 0), (26, 0), (27, 0), (28, 0), (29, 0), (30, 3), (31, 2), (32, 2), (33, 2)]) (by kernel_rfl) (by kernel_rfl) ?_
              clear S; intro w S
              refine zm E rfl (fun w h => zAe E rfl rfl) ?_; clear E a; intro a E
              refine zm E rfl (fun w h => by first | exact zCg E rfl rfl rfl | exact zAv E rfl rfl rfl rfl | exact zBc E rfl rfl rfl rfl | exact zAw E rfl rfl rfl) ?_; clear E a; intro a E
              refine zm E rfl (fun w h => zAe E rfl rfl) ?_; clear E a; intro a E
              refine zCo E (t := 255) rfl (rfl) (fun hb255 => ?_)
              refine zAp E rfl rfl rfl rfl rfl hb255 rfl (by decide) (fun w h => zAe E rfl rfl) ?_; clear E a; intro a E
              refine zAp E rfl rfl rfl rfl rfl hb255 rfl (by decide) (fun w h => by first | exact zBz E rfl rfl rfl | exact zAy E rfl rfl rfl | exact zAt E rfl rfl rfl) ?_; clear E a; intro a E
              refine zAp E rfl rfl rfl rfl rfl hb255 rfl (by decide) (fun w h => zAe E rfl rfl) ?_; clear E a; intro a E
              refine zAp E rfl rfl rfl rfl rfl hb255 rfl (by decide) (fun w h => by first | exact zBz E rfl rfl rfl | exact zAy E rfl rfl rfl | exact zAt E rfl rfl rfl) ?_; clear E a; intro a E
              refine zAp E rfl rfl rfl rfl rfl hb255 rfl (by decide) (fun w h => zCd E rfl rfl rfl) ?_; clear E a; intro a E
              refine zAp E rfl rfl rfl rfl rfl hb255 rfl (by decide) (fun w h => zAe E rfl rfl) ?_; clear E a; intro a E
              refine zCa E (t := 261) rfl ((by show decide (_ < _) = false; simp; omega)) (fun hb261 => ?_)
              iterate 2 (refine zAp E rfl rfl rfl rfl rfl hb261 rfl (by decide) (fun w h => zAe E rfl rfl) ?_; clear E a; intro a E)
              refine zAp E rfl rfl rfl rfl rfl hb261 rfl (by decide) (fun w h => by first | exact zBz E rfl rfl rfl | exact zAy E rfl rfl rfl | exact zAt E rfl rfl rfl) ?_; clear E a; intro a E
              refine zAp E rfl rfl rfl rfl rfl hb261 rfl (by decide) (fun w h => zEt (s := 1) (hi := b.length) E rfl rfl rfl rfl rfl rfl (by omega)) ?_; clear E a; intro a E
              rw [zGj] at E
              refine zAp E rfl rfl rfl rfl rfl hb261 rfl (by decide) (fun w h => zCz E rfl rfl rfl rfl rfl (bs := b) hCp2.rd (h.at (by repeat (first | exact mm1 | assumption | apply List.Mem.tail)))) ?_; clear E a; intro a E
              refine zAp E rfl rfl rfl rfl rfl hb261 rfl (by decide) (fun w h => zAe E rfl rfl) ?_; clear E a; intro a E
              refine zAp E rfl rfl rfl rfl rfl hb261 rfl (by decide) (fun w h => zCz E rfl rfl rfl rfl rfl (bs := b) hb0 (h.at (by repeat (first | exact mm1 | assumption | apply List.Mem.tail)))) ?_; clear E a; intro a E
              refine zAp E rfl rfl rfl rfl rfl hb261 rfl (by decide) (fun w h => by first | exact zCq E rfl rfl rfl | exact zAx E rfl rfl rfl rfl | exact zBg E rfl rfl rfl rfl | exact zBb E rfl rfl rfl) ?_; clear E a; intro a E
              refine zAp E rfl rfl rfl rfl rfl hb255 rfl (by decide) (fun w h => zAr E rfl rfl hb261 rfl) ?_; clear E a; intro a E
              refine zm E rfl (fun w h => zAl E rfl rfl hb255 rfl) ?_; clear E a; intro a E
              refine zm E rfl (fun w h => zAe E rfl rfl) ?_; clear E a; intro a E
              refine zCa E (t := 272) rfl ((by simp)) (fun hb272 => ?_)
              refine zAp E rfl rfl rfl rfl rfl hb272 rfl (by decide) (fun w h => zAe E rfl rfl) ?_; clear E a; intro a E
              refine zAp E rfl rfl rfl rfl rfl hb272 rfl (by decide) (fun w h => by first | exact zCq E rfl rfl rfl | exact zAx E rfl rfl rfl rfl | exact zBg E rfl rfl rfl rfl | exact zBb E rfl rfl rfl) ?_; clear E a; intro a E
              refine zAp E rfl rfl rfl rfl rfl hb272 rfl (by decide) (fun w h => zAe E rfl rfl) ?_; clear E a; intro a E
              refine zCa E (t := 275) rfl (rfl) (fun hb275 => ?_)
              iterate 7 (refine zBp E rfl rfl rfl rfl rfl hb275 rfl (by decide) ?_; clear E a; intro a E)
              refine zIr E rfl rfl rfl rfl rfl hb275 rfl (by decide) ?_; clear E a; intro a E
              refine mix_guard_no2 E rfl rfl rfl rfl rfl hb275 rfl (by decide) ?_; clear E a; intro a E
              refine zGc E rfl rfl rfl rfl rfl hb272 rfl (by decide) (fun w => zAr E rfl rfl hb275 rfl) ?_; clear E a; intro a E
              refine zCi E rfl rfl rfl (by decide) (fun w => zAr E rfl rfl hb272 rfl) ?_; clear E a; intro a E
              refine zBr ?_
              refine zAh hK ?_; clear hK; clear K
              refine zBs E rfl rfl ?_
              refine wp_skip ?_
              refine zBf ?_
              refine zAh hK ?_; clear hK; clear K
              refine zAc ?_
              refine zp E (zAe E rfl rfl) ?_; clear E a; intro a E
              refine zp E (zBu E rfl rfl rfl (w_in (by omega))) ?_; clear E a; intro a E
              refine zp E (zAf E rfl rfl) ?_; clear E a; intro a E
              refine wpList_nil ?_
              refine zBe ?_
              exact ⟨_, by omega, j + 1, Lj2, rfl, by omega, hLj2, S.only (zAd (by repeat (first | exact pk1 | apply zAa)) (zAd (by repeat (first | exact pk1 | apply zAa)) (zAd (by repeat (first | exact pk1 | apply zAa)) (zAd (by repeat (first | exact pk1 | apply zAa)) (zAd (by repeat (first | exact pk1 | apply zAa)) (zAd (by repeat (first | exact pk1 | apply zAa)) (zAk _))))))), E.keep (zAb rfl (zAb rfl (zAb rfl (zAb rfl (zAb rfl zAq)))))⟩
            · skip
              rw [hfd, if_pos rfl] at hrd2
              refine zp E (zAe E rfl rfl) ?_; clear E a; intro a E
              refine zp E (zAm E rfl rfl) ?_; clear E a; intro a E
              refine zp E (by first | exact zAg (q := 2) E rfl rfl rfl | exact zAi (q := 2) E rfl rfl rfl) ?_; clear E a; intro a E
              refine zp E (by first | exact zAn E rfl rfl rfl (S.get (by repeat (first | exact pk1 | apply zAa))) rfl | exact zAj E rfl rfl rfl (by assumption)) ?_; clear E a; intro a E
              refine zp E (zAe E rfl rfl) ?_; clear E a; intro a E
              refine zp E (zBh (i := j) E rfl rfl rfl rfl rfl rfl (by omega)) ?_; clear E a; intro a E
              refine zp E (zAj E rfl rfl rfl (hCLs.rd.cells (S.stab.at (by repeat (first | exact mm1 | assumption | apply List.Mem.tail))) rfl j _ hcellL)) ?_; clear E a; intro a E
              iterate 2 (refine zp E (zAe E rfl rfl) ?_; clear E a; intro a E)
              refine zp E (by first | exact zBz E rfl rfl rfl | exact zAy E rfl rfl rfl | exact zAt E rfl rfl rfl) ?_; clear E a; intro a E
              refine zp E (zBu E rfl rfl rfl (w_in (by omega))) ?_; clear E a; intro a E
              refine zp E (zFt E rfl rfl rfl (by first | decide | omega) (show IntKind.i64.wrap (((b.length : Int) + 127).tdiv 128) = (bn : Int) by rw [Int.tdiv_eq_ediv_of_nonneg (by omega), ← hbn, hnv]; exact w_in (by omega))) ?_; clear E a; intro a E
              refine zAs E rfl rfl (by decide) rfl Tryz.func11 rfl (by kernel_rfl) rfl (zIl p R5 C5 hC5 (lvs xs) Lj hLj j xs[j] (zIm hil) (hU5.has _ hmi) at_ bn ha _ (S.hp.sel (zAd (by repeat (first | exact pk1 | apply zAa)) (zAd (by repeat (first | exact pk1 | apply zAa)) (zAk _))))) ?_
              rintro v250 w ⟨vb, Cb, Lj2, rfl, hCb, hLj2, hT⟩; clear E a; intro a E
              have S := S.call3 (zAd (by repeat (first | exact pk1 | apply zAa)) (zAd (by repeat (first | exact pk1 | apply zAa)) (zAk _))) hT; rw [hrd2] at E hCb; obtain ⟨adc, cpc, rfl⟩ := hCb.slice
              refine zp E (zAe E rfl rfl) ?_; clear E a; intro a E
              iterate 2 (refine zp E (zBw E rfl rfl rfl) ?_; clear E a; intro a E)
              iterate 2 (refine zp E (zAf E rfl rfl) ?_; clear E a; intro a E)
              refine wpList_nil ?_
              refine zAh hK ?_; clear hK; clear K
              refine wp_seq_k ?_; intro K hK
              refine zBm S (.ofL [(0, 0), (1, 0), (2, 0), (3, 0), (4, 0), (5, 0), (6, 0), (7, 0), (8, 0), (9, 0), (10, 0), (11, 0), (12, 0), (13, 0), (14, 0), (15, 0), (16, 0), (17, 0), (18, 0), (19, 0), (20, 0), (21, 0), (22, 0), (23, 0), (24, 0), (25, 0), (26, 0), (27, 0), (28, 0), (29, 0), (30, 3), (31, 2), (32, 2), (33, 2)]) (by kernel_rfl) (by kernel_rfl) ?_
              clear S; intro w S
              refine zm E rfl (fun w h => zAe E rfl rfl) ?_; clear E a; intro a E
              refine zm E rfl (fun w h => by first | exact zCg E rfl rfl rfl | exact zAv E rfl rfl rfl rfl | exact zBc E rfl rfl rfl rfl | exact zAw E rfl rfl rfl) ?_; clear E a; intro a E
              refine zm E rfl (fun w h => zAe E rfl rfl) ?_; clear E a; intro a E
              refine zCa E (t := 255) rfl (rfl) (fun hb255 => ?_)
              iterate 6 (refine zBp E rfl rfl rfl rfl rfl hb255 rfl (by decide) ?_; clear E a; intro a E)
              iterate 8 (refine zJw E rfl rfl rfl rfl rfl rfl (by decide) ?_; clear E a; intro a E)
              refine zBp E rfl rfl rfl rfl rfl hb255 rfl (by decide) ?_; clear E a; intro a E
              refine zm E rfl (fun w h => zAr E rfl rfl hb255 rfl) ?_; clear E a; intro a E
              refine zm E rfl (fun w h => zAe E rfl rfl) ?_; clear E a; intro a E
              refine zAp E rfl rfl rfl rfl rfl rfl rfl (by decide) (fun w h => zAe E rfl rfl) ?_; clear E a; intro a E
              refine zAp E rfl rfl rfl rfl rfl rfl rfl (by decide) (fun w h => by first | exact zCq E rfl rfl rfl | exact zAx E rfl rfl rfl rfl | exact zBg E rfl rfl rfl rfl | exact zBb E rfl rfl rfl) ?_; clear E a; intro a E
              refine zAp E rfl rfl rfl rfl rfl rfl rfl (by decide) (fun w h => zAe E rfl rfl) ?_; clear E a; intro a E
              refine zCo E (t := 275) rfl (rfl) (fun hb275 => ?_)
              refine zAp E rfl rfl rfl rfl rfl hb275 rfl (by decide) (fun w h => zAe E rfl rfl) ?_; clear E a; intro a E
              refine zAp E rfl rfl rfl rfl rfl hb275 rfl (by decide) (fun w h => zAm E rfl rfl) ?_; clear E a; intro a E
              refine zAp E rfl rfl rfl rfl rfl hb275 rfl (by decide) (fun w h => by first | exact zAg (q := 2) E rfl rfl rfl | exact zAi (q := 2) E rfl rfl rfl) ?_; clear E a; intro a E
              refine zAp E rfl rfl rfl rfl rfl hb275 rfl (by decide) (fun w h => by first | exact zAn E rfl rfl rfl (h.one (by repeat (first | exact mm1 | assumption | apply List.Mem.tail))) rfl | exact zAj E rfl rfl rfl (by assumption)) ?_; clear E a; intro a E
              refine zAp E rfl rfl rfl rfl rfl hb275 rfl (by decide) (fun w h => zAe E rfl rfl) ?_; clear E a; intro a E
              refine zAp E rfl rfl rfl rfl rfl hb275 rfl (by decide) (fun w h => zBh (i := j) E rfl rfl rfl rfl rfl rfl (by omega)) ?_; clear E a; intro a E
              refine zAp E rfl rfl rfl rfl rfl hb275 rfl (by decide) (fun w h => zAj E rfl rfl rfl (hCLs.rd.cells (h.at (by repeat (first | exact mm1 | assumption | apply List.Mem.tail))) rfl j _ hcellL)) ?_; clear E a; intro a E
              refine zLa E rfl rfl rfl rfl rfl hb275 ?_; refine zEb E rfl (by decide) rfl Tryz.func15 rfl (by kernel_rfl) rfl (lfailed_in p R5 C5 hC5 (lvs xs) Lj2 hLj2 j xs[j] (zIm hil) (hU5.has _ hmi) _ (S.hp.sel (zAd (by repeat (first | exact pk1 | apply zAa)) (zAd (by repeat (first | exact pk1 | apply zAa)) (zAk _))))) ?_
              rintro v283 w ⟨rfl, hT⟩; clear E a; intro a E
              have S := S.call2 (zAd (by repeat (first | exact pk1 | apply zAa)) (zAd (by repeat (first | exact pk1 | apply zAa)) (zAk _))) hT; rw [hfd] at E
              refine zGc E rfl rfl rfl rfl rfl hb275 rfl (by decide) (fun w => zEg E rfl rfl) ?_; clear E a; intro a E
              refine zGc E rfl rfl rfl rfl rfl rfl rfl (by decide) (fun w => zAl E rfl rfl hb275 rfl) ?_; clear E a; intro a E
              refine zCi E rfl rfl rfl (by decide) (fun w => zAr E rfl rfl rfl rfl) ?_; clear E a; intro a E
              refine zBr ?_
              refine zAh hK ?_; clear hK; clear K
              refine zBs E rfl (rfl) ?_
              refine wp_skip ?_
              refine zBf ?_
              refine zAh hK ?_; clear hK; clear K
              refine zAc ?_
              refine zp E (zAe E rfl rfl) ?_; clear E a; intro a E
              refine zp E (zBu E rfl rfl rfl (w_in (by omega))) ?_; clear E a; intro a E
              refine zp E (zAf E rfl rfl) ?_; clear E a; intro a E
              refine wpList_nil ?_
              refine zBe ?_
              exact ⟨_, by omega, j + 1, Lj2, rfl, by omega, hLj2, S.only (zAd (by repeat (first | exact pk1 | apply zAa)) (zAd (by repeat (first | exact pk1 | apply zAa)) (zAd (by repeat (first | exact pk1 | apply zAa)) (zAd (by repeat (first | exact pk1 | apply zAa)) (zAd (by repeat (first | exact pk1 | apply zAa)) (zAd (by repeat (first | exact pk1 | apply zAa)) (zAk _))))))), E.keep (zAb rfl (zAb rfl (zAb rfl (zAb rfl (zAb rfl zAq)))))⟩
          · replace hb := Nrm.nrm hb
            refine wp_exit ?_
            refine zBd ?_; clear hK; clear K
            refine zBd ?_
            refine zCl ?_
            refine zAh hK ?_; clear hK; clear K
            refine wp_seq_k ?_; intro K hK
            refine zAc ?_
            refine zp E (zAf E rfl rfl) ?_; clear E a; intro a E
            refine wpList_nil ?_
            refine zAh hK ?_; clear hK; clear K
            refine wp_ret ?_
            refine ret1 E rfl rfl ?_
            exact ⟨_, rfl, rfl, (S.only (Bs := [O]) (zAd (by repeat (first | exact pk1 | apply zAa)) (zAk _))).tr⟩
      · skip
        refine zp E (zAe E rfl rfl) ?_; clear E a; intro a E
        refine zp E (zAm E rfl rfl) ?_; clear E a; intro a E
        refine zp E (by first | exact zAg (q := 3) E rfl rfl rfl | exact zAi (q := 3) E rfl rfl rfl) ?_; clear E a; intro a E
        refine zp E (by first | exact zAn E rfl rfl rfl (S.get (by repeat (first | exact pk1 | apply zAa))) rfl | exact zAj E rfl rfl rfl (by assumption)) ?_; clear E a; intro a E
        iterate 2 (refine zp E (zAe E rfl rfl) ?_; clear E a; intro a E)
        refine zAs E rfl rfl (by decide) rfl Tryz.func8 rfl (by kernel_rfl) rfl (mwrite_no p R C hC xs 0 hU (by omega) (by omega) hnd Lv hLv t _ vk CL hCL at_ ha hnf b (by omega) _ O hb0 (by omega) 9 (by omega) hfit _ (S.hp.sel (zAd (by repeat (first | exact pk1 | apply zAa)) (zAd (by repeat (first | exact pk1 | apply zAa)) (zAd (by repeat (first | exact pk1 | apply zAa)) (zAd (by repeat (first | exact pk1 | apply zAa)) (zAd (by repeat (first | exact pk1 | apply zAa)) (zAk _)))))))) ?_
        rintro v74 w ⟨rfl, hT⟩; clear E a; intro a E
        have S := S.call (zAd (by repeat (first | exact pk1 | apply zAa)) (zAd (by repeat (first | exact pk1 | apply zAa)) (zAd (by repeat (first | exact pk1 | apply zAa)) (zAd (by repeat (first | exact pk1 | apply zAa)) (zAd (by repeat (first | exact pk1 | apply zAa)) (zAk _)))))) hT; simp only [List.cons_append, List.nil_append] at S
        refine zp E (zAf E rfl rfl) ?_; clear E a; intro a E
        refine wpList_nil ?_
        refine zAh hK ?_; clear hK; clear K
        iterate 2 (refine wp_seq_k ?_; intro K hK)
        replace E := E.keep (e' := [(0, _), (1, _), (2, _), (3, _), (4, _), (5, _), (6, _), (16, _), (19, _), (20, _), (21, _)]) (zAb rfl (zAb rfl (zAb rfl (zAb rfl (zAb rfl (zAb rfl (zAb rfl (zAb rfl (zAb rfl (zAb rfl (zAb rfl (zAq))))))))))))
        refine zAc ?_
        refine zp E (zAe E rfl rfl) ?_; clear E a; intro a E
        refine zp E (by first | exact zCq E rfl rfl rfl | exact zAx E rfl rfl rfl rfl | exact zBg E rfl rfl rfl rfl | exact zBb E rfl rfl rfl) ?_; clear E a; intro a E
        refine zp E (zAe E rfl rfl) ?_; clear E a; intro a E
        refine zAz E (t := 77) rfl (fun hb77 => ?_) (fun hb77 => ?_)
        · have hb77n := hb77; replace hb77n := Nrm.nrm hb77n
          iterate 2 (refine zn E hb77 ?_; clear E a; intro a E)
          refine zp E (zAl E rfl rfl hb77 rfl) ?_; clear E a; intro a E
          refine wpList_nil ?_
          refine zAh hK ?_; clear hK; clear K
          refine zDb E rfl rfl ?_
          refine wp_seq_k ?_; intro K hK
          refine zAc ?_
          refine zp E (zAe E rfl rfl) ?_; clear E a; intro a E
          refine zp E (by first | exact zBz E rfl rfl rfl | exact zAy E rfl rfl rfl | exact zAt E rfl rfl rfl) ?_; clear E a; intro a E
          refine zp E (zCd E rfl rfl rfl) ?_; clear E a; intro a E
          refine zp E (zAe E rfl rfl) ?_; clear E a; intro a E
          refine zAz E (t := 84) rfl (fun hb84 => ?_) (fun hb84 => ?_)
          · have hb84n := hb84; replace hb84n := Nrm.nrm hb84n
            iterate 3 (refine zn E hb84 ?_; clear E a; intro a E)
            refine zp E (zAl E rfl rfl hb84 rfl) ?_; clear E a; intro a E
            refine zp E (zAe E rfl rfl) ?_; clear E a; intro a E
            iterate 2 (refine zn E rfl ?_; clear E a; intro a E)
            refine zp E (zAl E rfl rfl rfl rfl) ?_; clear E a; intro a E
            refine zp E (zAe E rfl rfl) ?_; clear E a; intro a E
            iterate 2 (refine zn E rfl ?_; clear E a; intro a E)
            refine zp E (zAl E rfl rfl rfl rfl) ?_; clear E a; intro a E
            refine zp E (zAe E rfl rfl) ?_; clear E a; intro a E
            iterate 2 (refine zn E rfl ?_; clear E a; intro a E)
            refine zp E (zAl E rfl rfl rfl rfl) ?_; clear E a; intro a E
            refine zp E (zAe E rfl rfl) ?_; clear E a; intro a E
            iterate 7 (refine zn E rfl ?_; clear E a; intro a E)
            refine zp E (zAl E rfl rfl rfl rfl) ?_; clear E a; intro a E
            refine zp E (zAf E rfl rfl) ?_; clear E a; intro a E
            refine wpList_nil ?_
            refine zAh hK ?_; clear hK; clear K
            refine wp_ret ?_
            refine zBi ?_; clear hK; clear K
            refine ret1 E rfl rfl ?_
            exact ⟨_, rfl, by first | rfl | (unfold zEm at hfit; have hv := zDx (n := b.length) (by first | (simp_all; done) | (simp_all; omega)) (by first | (simp_all; done) | (simp_all; omega)); simp; omega), (S.only (Bs := [O]) (zAd (by repeat (first | exact pk1 | apply zAa)) (zAk _))).tr⟩
          · have hb84n := hb84; replace hb84n := Nrm.nrm hb84n
            refine zy E hb84 (zAe E rfl rfl) ?_; clear E a; intro a E
            refine zy E hb84 (by first | exact zBz E rfl rfl rfl | exact zAy E rfl rfl rfl | exact zAt E rfl rfl rfl) ?_; clear E a; intro a E
            refine zy E hb84 (zDf E rfl rfl rfl) ?_; clear E a; intro a E
            refine zp E (zAr E rfl rfl hb84 rfl) ?_; clear E a; intro a E
            refine zp E (zAe E rfl rfl) ?_; clear E a; intro a E
            refine zAz E (t := 89) rfl (fun hb89 => ?_) (fun hb89 => ?_)
            · have hb89n := hb89; replace hb89n := Nrm.nrm hb89n
              iterate 2 (refine zn E hb89 ?_; clear E a; intro a E)
              refine zp E (zAl E rfl rfl hb89 rfl) ?_; clear E a; intro a E
              refine zp E (zAe E rfl rfl) ?_; clear E a; intro a E
              iterate 2 (refine zn E rfl ?_; clear E a; intro a E)
              refine zp E (zAl E rfl rfl rfl rfl) ?_; clear E a; intro a E
              refine zp E (zAe E rfl rfl) ?_; clear E a; intro a E
              iterate 2 (refine zn E rfl ?_; clear E a; intro a E)
              refine zp E (zAl E rfl rfl rfl rfl) ?_; clear E a; intro a E
              refine zp E (zAe E rfl rfl) ?_; clear E a; intro a E
              iterate 7 (refine zn E rfl ?_; clear E a; intro a E)
              refine zp E (zAl E rfl rfl rfl rfl) ?_; clear E a; intro a E
              refine zp E (zAf E rfl rfl) ?_; clear E a; intro a E
              refine wpList_nil ?_
              refine zAh hK ?_; clear hK; clear K
              refine wp_ret ?_
              refine zBi ?_; clear hK; clear K
              refine ret1 E rfl rfl ?_
              exact ⟨_, rfl, by first | rfl | (unfold zEm at hfit; have hv := zDx (n := b.length) (by first | (simp_all; done) | (simp_all; omega)) (by first | (simp_all; done) | (simp_all; omega)); simp; omega), (S.only (Bs := [O]) (zAd (by repeat (first | exact pk1 | apply zAa)) (zAk _))).tr⟩
            · have hb89n := hb89; replace hb89n := Nrm.nrm hb89n
              refine zy E hb89 (zAe E rfl rfl) ?_; clear E a; intro a E
              refine zy E hb89 (zCd E rfl rfl rfl) ?_; clear E a; intro a E
              refine zp E (zAr E rfl rfl hb89 rfl) ?_; clear E a; intro a E
              refine zp E (zAe E rfl rfl) ?_; clear E a; intro a E
              refine zAz E (t := 93) rfl (fun hb93 => ?_) (fun hb93 => ?_)
              · have hb93n := hb93; replace hb93n := Nrm.nrm hb93n
                iterate 2 (refine zn E hb93 ?_; clear E a; intro a E)
                refine zp E (zAl E rfl rfl hb93 rfl) ?_; clear E a; intro a E
                refine zp E (zAe E rfl rfl) ?_; clear E a; intro a E
                iterate 2 (refine zn E rfl ?_; clear E a; intro a E)
                refine zp E (zAl E rfl rfl rfl rfl) ?_; clear E a; intro a E
                refine zp E (zAe E rfl rfl) ?_; clear E a; intro a E
                iterate 7 (refine zn E rfl ?_; clear E a; intro a E)
                refine zp E (zAl E rfl rfl rfl rfl) ?_; clear E a; intro a E
                refine zp E (zAf E rfl rfl) ?_; clear E a; intro a E
                refine wpList_nil ?_
                refine zAh hK ?_; clear hK; clear K
                refine wp_ret ?_
                refine zBi ?_; clear hK; clear K
                refine ret1 E rfl rfl ?_
                exact ⟨_, rfl, by first | rfl | (unfold zEm at hfit; have hv := zDx (n := b.length) (by first | (simp_all; done) | (simp_all; omega)) (by first | (simp_all; done) | (simp_all; omega)); simp; omega), (S.only (Bs := [O]) (zAd (by repeat (first | exact pk1 | apply zAa)) (zAk _))).tr⟩
              · have hb93n := hb93; replace hb93n := Nrm.nrm hb93n
                refine zy E hb93 (zAe E rfl rfl) ?_; clear E a; intro a E
                refine zy E hb93 (zDf E rfl rfl rfl) ?_; clear E a; intro a E
                refine zp E (zAr E rfl rfl hb93 rfl) ?_; clear E a; intro a E
                refine zp E (zAe E rfl rfl) ?_; clear E a; intro a E
                refine zAz E (t := 97) rfl (fun hb97 => ?_) (fun hb97 => ?_)
                · have hb97n := hb97; replace hb97n := Nrm.nrm hb97n
                  iterate 2 (refine zn E hb97 ?_; clear E a; intro a E)
                  refine zp E (zAl E rfl rfl hb97 rfl) ?_; clear E a; intro a E
                  refine zp E (zAe E rfl rfl) ?_; clear E a; intro a E
                  iterate 7 (refine zn E rfl ?_; clear E a; intro a E)
                  refine zp E (zAl E rfl rfl rfl rfl) ?_; clear E a; intro a E
                  refine zp E (zAf E rfl rfl) ?_; clear E a; intro a E
                  refine wpList_nil ?_
                  refine zAh hK ?_; clear hK; clear K
                  refine wp_ret ?_
                  refine zBi ?_; clear hK; clear K
                  refine ret1 E rfl rfl ?_
                  exact ⟨_, rfl, by first | rfl | (unfold zEm at hfit; have hv := zDx (n := b.length) (by first | (simp_all; done) | (simp_all; omega)) (by first | (simp_all; done) | (simp_all; omega)); simp; omega), (S.only (Bs := [O]) (zAd (by repeat (first | exact pk1 | apply zAa)) (zAk _))).tr⟩
                · have hb97n := hb97; replace hb97n := Nrm.nrm hb97n
                  refine zy E hb97 (zAe E rfl rfl) ?_; clear E a; intro a E
                  refine zy E hb97 (zCd E rfl rfl rfl) ?_; clear E a; intro a E
                  refine zp E (zAr E rfl rfl hb97 rfl) ?_; clear E a; intro a E
                  refine zp E (zAe E rfl rfl) ?_; clear E a; intro a E
                  refine zAz E (t := 101) rfl (fun hb101 => ?_) (fun hb101 => ?_)
                  · have hb101n := hb101; replace hb101n := Nrm.nrm hb101n
                    iterate 7 (refine zn E hb101 ?_; clear E a; intro a E)
                    refine zp E (zAl E rfl rfl hb101 rfl) ?_; clear E a; intro a E
                    refine zp E (zAf E rfl rfl) ?_; clear E a; intro a E
                    refine wpList_nil ?_
                    refine zAh hK ?_; clear hK; clear K
                    refine wp_ret ?_
                    refine zBi ?_; clear hK; clear K
                    refine ret1 E rfl rfl ?_
                    exact ⟨_, rfl, by first | rfl | (unfold zEm at hfit; have hv := zDx (n := b.length) (by first | (simp_all; done) | (simp_all; omega)) (by first | (simp_all; done) | (simp_all; omega)); simp; omega), (S.only (Bs := [O]) (zAd (by repeat (first | exact pk1 | apply zAa)) (zAk _))).tr⟩
                  · have hb101n := hb101; replace hb101n := Nrm.nrm hb101n
                    iterate 2 (refine zy E hb101 (zAe E rfl rfl) ?_; clear E a; intro a E)
                    refine zy E hb101 (by first | exact zBz E rfl rfl rfl | exact zAy E rfl rfl rfl | exact zAt E rfl rfl rfl) ?_; clear E a; intro a E
                    refine zy E hb101 (zBu E rfl rfl rfl (w_in (by omega))) ?_; clear E a; intro a E
                    refine zy E hb101 (zFt E rfl rfl rfl (by first | decide | omega) (show IntKind.i64.wrap (((b.length : Int) + 127).tdiv 128) = ((b.length : Int) + 127) / 128 by rw [Int.tdiv_eq_ediv_of_nonneg (by omega)]; exact w_in (by omega))) ?_; clear E a; intro a E
                    refine zy E hb101 (zDg E rfl rfl rfl (w_in (by omega))) ?_; clear E a; intro a E
                    refine zy E hb101 (zDf E rfl rfl rfl) ?_; clear E a; intro a E
                    refine zp E (zAr E rfl rfl hb101 rfl) ?_; clear E a; intro a E
                    refine zp E (zAf E rfl rfl) ?_; clear E a; intro a E
                    refine wpList_nil ?_
                    refine zAh hK ?_; clear hK; clear K
                    refine wp_ret ?_
                    refine zBi ?_; clear hK; clear K
                    refine ret1 E rfl rfl ?_
                    exact ⟨_, rfl, by first | rfl | (unfold zEm at hfit; have hv := zDx (n := b.length) (by first | (simp_all; done) | (simp_all; omega)) (by first | (simp_all; done) | (simp_all; omega)); simp; omega), (S.only (Bs := [O]) (zAd (by repeat (first | exact pk1 | apply zAa)) (zAk _))).tr⟩
        · have hb77n := hb77; replace hb77n := Nrm.nrm hb77n
          refine zy E hb77 (zAe E rfl rfl) ?_; clear E a; intro a E
          refine zy E hb77 (by first | exact zCq E rfl rfl rfl | exact zAx E rfl rfl rfl rfl | exact zBg E rfl rfl rfl rfl | exact zBb E rfl rfl rfl) ?_; clear E a; intro a E
          refine zp E (zAr E rfl rfl hb77 rfl) ?_; clear E a; intro a E
          refine wpList_nil ?_
          refine zAh hK ?_; clear hK; clear K
          refine zDb E rfl (rfl) ?_
          refine wp_seq_k ?_; intro K hK
          refine zAc ?_
          refine zp E (zAe E rfl rfl) ?_; clear E a; intro a E
          refine zp E (by first | exact zBz E rfl rfl rfl | exact zAy E rfl rfl rfl | exact zAt E rfl rfl rfl) ?_; clear E a; intro a E
          refine zp E (zCd E rfl rfl rfl) ?_; clear E a; intro a E
          refine zp E (zAe E rfl rfl) ?_; clear E a; intro a E
          refine zAz E (t := 84) rfl (fun hb84 => ?_) (fun hb84 => ?_)
          · have hb84n := hb84; replace hb84n := Nrm.nrm hb84n
            iterate 3 (refine zn E hb84 ?_; clear E a; intro a E)
            refine zp E (zAl E rfl rfl hb84 rfl) ?_; clear E a; intro a E
            refine zp E (zAe E rfl rfl) ?_; clear E a; intro a E
            iterate 2 (refine zn E rfl ?_; clear E a; intro a E)
            refine zp E (zAl E rfl rfl rfl rfl) ?_; clear E a; intro a E
            refine zp E (zAe E rfl rfl) ?_; clear E a; intro a E
            iterate 2 (refine zn E rfl ?_; clear E a; intro a E)
            refine zp E (zAl E rfl rfl rfl rfl) ?_; clear E a; intro a E
            refine zp E (zAe E rfl rfl) ?_; clear E a; intro a E
            iterate 2 (refine zn E rfl ?_; clear E a; intro a E)
            refine zp E (zAl E rfl rfl rfl rfl) ?_; clear E a; intro a E
            refine zp E (zAe E rfl rfl) ?_; clear E a; intro a E
            iterate 7 (refine zn E rfl ?_; clear E a; intro a E)
            refine zp E (zAl E rfl rfl rfl rfl) ?_; clear E a; intro a E
            refine zp E (zAf E rfl rfl) ?_; clear E a; intro a E
            refine wpList_nil ?_
            refine zAh hK ?_; clear hK; clear K
            refine wp_ret ?_
            refine zBi ?_; clear hK; clear K
            refine ret1 E rfl rfl ?_
            exact ⟨_, rfl, by first | rfl | (unfold zEm at hfit; have hv := zDx (n := b.length) (by first | (simp_all; done) | (simp_all; omega)) (by first | (simp_all; done) | (simp_all; omega)); simp; omega), (S.only (Bs := [O]) (zAd (by repeat (first | exact pk1 | apply zAa)) (zAk _))).tr⟩
          · have hb84n := hb84; replace hb84n := Nrm.nrm hb84n
            refine zy E hb84 (zAe E rfl rfl) ?_; clear E a; intro a E
            refine zy E hb84 (by first | exact zBz E rfl rfl rfl | exact zAy E rfl rfl rfl | exact zAt E rfl rfl rfl) ?_; clear E a; intro a E
            refine zy E hb84 (zDf E rfl rfl rfl) ?_; clear E a; intro a E
            refine zp E (zAr E rfl rfl hb84 rfl) ?_; clear E a; intro a E
            refine zp E (zAe E rfl rfl) ?_; clear E a; intro a E
            refine zAz E (t := 89) rfl (fun hb89 => ?_) (fun hb89 => ?_)
            · have hb89n := hb89; replace hb89n := Nrm.nrm hb89n
              iterate 2 (refine zn E hb89 ?_; clear E a; intro a E)
              refine zp E (zAl E rfl rfl hb89 rfl) ?_; clear E a; intro a E
              refine zp E (zAe E rfl rfl) ?_; clear E a; intro a E
              iterate 2 (refine zn E rfl ?_; clear E a; intro a E)
              refine zp E (zAl E rfl rfl rfl rfl) ?_; clear E a; intro a E
              refine zp E (zAe E rfl rfl) ?_; clear E a; intro a E
              iterate 2 (refine zn E rfl ?_; clear E a; intro a E)
              refine zp E (zAl E rfl rfl rfl rfl) ?_; clear E a; intro a E
              refine zp E (zAe E rfl rfl) ?_; clear E a; intro a E
              iterate 7 (refine zn E rfl ?_; clear E a; intro a E)
              refine zp E (zAl E rfl rfl rfl rfl) ?_; clear E a; intro a E
              refine zp E (zAf E rfl rfl) ?_; clear E a; intro a E
              refine wpList_nil ?_
              refine zAh hK ?_; clear hK; clear K
              refine wp_ret ?_
              refine zBi ?_; clear hK; clear K
              refine ret1 E rfl rfl ?_
              exact ⟨_, rfl, by first | rfl | (unfold zEm at hfit; have hv := zDx (n := b.length) (by first | (simp_all; done) | (simp_all; omega)) (by first | (simp_all; done) | (simp_all; omega)); simp; omega), (S.only (Bs := [O]) (zAd (by repeat (first | exact pk1 | apply zAa)) (zAk _))).tr⟩
            · have hb89n := hb89; replace hb89n := Nrm.nrm hb89n
              refine zy E hb89 (zAe E rfl rfl) ?_; clear E a; intro a E
              refine zy E hb89 (zCd E rfl rfl rfl) ?_; clear E a; intro a E
              refine zp E (zAr E rfl rfl hb89 rfl) ?_; clear E a; intro a E
              refine zp E (zAe E rfl rfl) ?_; clear E a; intro a E
              refine zAz E (t := 93) rfl (fun hb93 => ?_) (fun hb93 => ?_)
              · have hb93n := hb93; replace hb93n := Nrm.nrm hb93n
                iterate 2 (refine zn E hb93 ?_; clear E a; intro a E)
                refine zp E (zAl E rfl rfl hb93 rfl) ?_; clear E a; intro a E
                refine zp E (zAe E rfl rfl) ?_; clear E a; intro a E
                iterate 2 (refine zn E rfl ?_; clear E a; intro a E)
                refine zp E (zAl E rfl rfl rfl rfl) ?_; clear E a; intro a E
                refine zp E (zAe E rfl rfl) ?_; clear E a; intro a E
                iterate 7 (refine zn E rfl ?_; clear E a; intro a E)
                refine zp E (zAl E rfl rfl rfl rfl) ?_; clear E a; intro a E
                refine zp E (zAf E rfl rfl) ?_; clear E a; intro a E
                refine wpList_nil ?_
                refine zAh hK ?_; clear hK; clear K
                refine wp_ret ?_
                refine zBi ?_; clear hK; clear K
                refine ret1 E rfl rfl ?_
                exact ⟨_, rfl, by first | rfl | (unfold zEm at hfit; have hv := zDx (n := b.length) (by first | (simp_all; done) | (simp_all; omega)) (by first | (simp_all; done) | (simp_all; omega)); simp; omega), (S.only (Bs := [O]) (zAd (by repeat (first | exact pk1 | apply zAa)) (zAk _))).tr⟩
              · have hb93n := hb93; replace hb93n := Nrm.nrm hb93n
                refine zy E hb93 (zAe E rfl rfl) ?_; clear E a; intro a E
                refine zy E hb93 (zDf E rfl rfl rfl) ?_; clear E a; intro a E
                refine zp E (zAr E rfl rfl hb93 rfl) ?_; clear E a; intro a E
                refine zp E (zAe E rfl rfl) ?_; clear E a; intro a E
                refine zAz E (t := 97) rfl (fun hb97 => ?_) (fun hb97 => ?_)
                · have hb97n := hb97; replace hb97n := Nrm.nrm hb97n
                  iterate 2 (refine zn E hb97 ?_; clear E a; intro a E)
                  refine zp E (zAl E rfl rfl hb97 rfl) ?_; clear E a; intro a E
                  refine zp E (zAe E rfl rfl) ?_; clear E a; intro a E
                  iterate 7 (refine zn E rfl ?_; clear E a; intro a E)
                  refine zp E (zAl E rfl rfl rfl rfl) ?_; clear E a; intro a E
                  refine zp E (zAf E rfl rfl) ?_; clear E a; intro a E
                  refine wpList_nil ?_
                  refine zAh hK ?_; clear hK; clear K
                  refine wp_ret ?_
                  refine zBi ?_; clear hK; clear K
                  refine ret1 E rfl rfl ?_
                  exact ⟨_, rfl, by first | rfl | (unfold zEm at hfit; have hv := zDx (n := b.length) (by first | (simp_all; done) | (simp_all; omega)) (by first | (simp_all; done) | (simp_all; omega)); simp; omega), (S.only (Bs := [O]) (zAd (by repeat (first | exact pk1 | apply zAa)) (zAk _))).tr⟩
                · have hb97n := hb97; replace hb97n := Nrm.nrm hb97n
                  refine zy E hb97 (zAe E rfl rfl) ?_; clear E a; intro a E
                  refine zy E hb97 (zCd E rfl rfl rfl) ?_; clear E a; intro a E
                  refine zp E (zAr E rfl rfl hb97 rfl) ?_; clear E a; intro a E
                  refine zp E (zAe E rfl rfl) ?_; clear E a; intro a E
                  refine zAz E (t := 101) rfl (fun hb101 => ?_) (fun hb101 => ?_)
                  · have hb101n := hb101; replace hb101n := Nrm.nrm hb101n
                    iterate 7 (refine zn E hb101 ?_; clear E a; intro a E)
                    refine zp E (zAl E rfl rfl hb101 rfl) ?_; clear E a; intro a E
                    refine zp E (zAf E rfl rfl) ?_; clear E a; intro a E
                    refine wpList_nil ?_
                    refine zAh hK ?_; clear hK; clear K
                    refine wp_ret ?_
                    refine zBi ?_; clear hK; clear K
                    refine ret1 E rfl rfl ?_
                    exact ⟨_, rfl, by first | rfl | (unfold zEm at hfit; have hv := zDx (n := b.length) (by first | (simp_all; done) | (simp_all; omega)) (by first | (simp_all; done) | (simp_all; omega)); simp; omega), (S.only (Bs := [O]) (zAd (by repeat (first | exact pk1 | apply zAa)) (zAk _))).tr⟩
                  · have hb101n := hb101; replace hb101n := Nrm.nrm hb101n
                    iterate 2 (refine zy E hb101 (zAe E rfl rfl) ?_; clear E a; intro a E)
                    refine zy E hb101 (by first | exact zBz E rfl rfl rfl | exact zAy E rfl rfl rfl | exact zAt E rfl rfl rfl) ?_; clear E a; intro a E
                    refine zy E hb101 (zBu E rfl rfl rfl (w_in (by omega))) ?_; clear E a; intro a E
                    refine zy E hb101 (zFt E rfl rfl rfl (by first | decide | omega) (show IntKind.i64.wrap (((b.length : Int) + 127).tdiv 128) = ((b.length : Int) + 127) / 128 by rw [Int.tdiv_eq_ediv_of_nonneg (by omega)]; exact w_in (by omega))) ?_; clear E a; intro a E
                    refine zy E hb101 (zDg E rfl rfl rfl (w_in (by omega))) ?_; clear E a; intro a E
                    refine zy E hb101 (zDf E rfl rfl rfl) ?_; clear E a; intro a E
                    refine zp E (zAr E rfl rfl hb101 rfl) ?_; clear E a; intro a E
                    refine zp E (zAf E rfl rfl) ?_; clear E a; intro a E
                    refine wpList_nil ?_
                    refine zAh hK ?_; clear hK; clear K
                    refine wp_ret ?_
                    refine zBi ?_; clear hK; clear K
                    refine ret1 E rfl rfl ?_
                    exact ⟨_, rfl, by first | rfl | (unfold zEm at hfit; have hv := zDx (n := b.length) (by first | (simp_all; done) | (simp_all; omega)) (by first | (simp_all; done) | (simp_all; omega)); simp; omega), (S.only (Bs := [O]) (zAd (by repeat (first | exact pk1 | apply zAa)) (zAk _))).tr⟩
      · skip
        refine zp E (zAe E rfl rfl) ?_; clear E a; intro a E
        refine zp E (zAm E rfl rfl) ?_; clear E a; intro a E
        refine zp E (by first | exact zAg (q := 3) E rfl rfl rfl | exact zAi (q := 3) E rfl rfl rfl) ?_; clear E a; intro a E
        refine zp E (by first | exact zAn E rfl rfl rfl (S.get (by repeat (first | exact pk1 | apply zAa))) rfl | exact zAj E rfl rfl rfl (by assumption)) ?_; clear E a; intro a E
        iterate 2 (refine zp E (zAe E rfl rfl) ?_; clear E a; intro a E)
        refine zAs E rfl rfl (by decide) rfl Tryz.func8 rfl (by kernel_rfl) rfl (zIy p R C hC xs 0 hU (by omega) (by omega) hnd Lv hLv t _ vk CL hCL at_ ha hnf b _ O hb0 (by omega) 9 (by omega) hfit _ (S.hp.sel (zAd (by repeat (first | exact pk1 | apply zAa)) (zAd (by repeat (first | exact pk1 | apply zAa)) (zAd (by repeat (first | exact pk1 | apply zAa)) (zAd (by repeat (first | exact pk1 | apply zAa)) (zAd (by repeat (first | exact pk1 | apply zAa)) (zAk _)))))))) ?_
        rintro v74 w ⟨rfl, R1, C1, Lv1, hC1, hLv1, hU1, hW1, hT⟩; clear E a; intro a E
        have S := S.call (zAd (by repeat (first | exact pk1 | apply zAa)) (zAd (by repeat (first | exact pk1 | apply zAa)) (zAd (by repeat (first | exact pk1 | apply zAa)) (zAd (by repeat (first | exact pk1 | apply zAa)) (zAd (by repeat (first | exact pk1 | apply zAa)) (zAk _)))))) hT; simp only [List.cons_append, List.nil_append] at S
        refine zp E (zAf E rfl rfl) ?_; clear E a; intro a E
        refine wpList_nil ?_
        refine zAh hK ?_; clear hK; clear K
        iterate 2 (refine wp_seq_k ?_; intro K hK)
        replace E := E.keep (e' := [(0, _), (1, _), (2, _), (3, _), (4, _), (5, _), (6, _), (16, _), (19, _), (20, _), (21, _)]) (zAb rfl (zAb rfl (zAb rfl (zAb rfl (zAb rfl (zAb rfl (zAb rfl (zAb rfl (zAb rfl (zAb rfl (zAb rfl (zAq))))))))))))
        refine zAc ?_
        refine zp E (zAe E rfl rfl) ?_; clear E a; intro a E
        refine zp E (by first | exact zCq E rfl rfl rfl | exact zAx E rfl rfl rfl rfl | exact zBg E rfl rfl rfl rfl | exact zBb E rfl rfl rfl) ?_; clear E a; intro a E
        refine zp E (zAe E rfl rfl) ?_; clear E a; intro a E
        refine zCo E (t := 77) rfl ((by have := mt hse.1 hk12; simpa using this)) (fun hb77 => ?_)
        iterate 2 (refine zn E hb77 ?_; clear E a; intro a E)
        refine zp E (zAl E rfl rfl hb77 rfl) ?_; clear E a; intro a E
        refine wpList_nil ?_
        refine zAh hK ?_; clear hK; clear K
        refine zDb E rfl rfl ?_
        refine wp_seq_k ?_; intro K hK
        refine zAc ?_
        refine zp E (zAe E rfl rfl) ?_; clear E a; intro a E
        refine zp E (by first | exact zBz E rfl rfl rfl | exact zAy E rfl rfl rfl | exact zAt E rfl rfl rfl) ?_; clear E a; intro a E
        refine zp E (zCd E rfl rfl rfl) ?_; clear E a; intro a E
        refine zp E (zAe E rfl rfl) ?_; clear E a; intro a E
        refine zAz E (t := 84) rfl (fun hb84 => ?_) (fun hb84 => ?_)
        · have hb84n := hb84; replace hb84n := Nrm.nrm hb84n
          iterate 3 (refine zn E hb84 ?_; clear E a; intro a E)
          refine zp E (zAl E rfl rfl hb84 rfl) ?_; clear E a; intro a E
          refine zp E (zAe E rfl rfl) ?_; clear E a; intro a E
          iterate 2 (refine zn E rfl ?_; clear E a; intro a E)
          refine zp E (zAl E rfl rfl rfl rfl) ?_; clear E a; intro a E
          refine zp E (zAe E rfl rfl) ?_; clear E a; intro a E
          iterate 2 (refine zn E rfl ?_; clear E a; intro a E)
          refine zp E (zAl E rfl rfl rfl rfl) ?_; clear E a; intro a E
          refine zp E (zAe E rfl rfl) ?_; clear E a; intro a E
          iterate 2 (refine zn E rfl ?_; clear E a; intro a E)
          refine zp E (zAl E rfl rfl rfl rfl) ?_; clear E a; intro a E
          refine zp E (zAe E rfl rfl) ?_; clear E a; intro a E
          iterate 7 (refine zn E rfl ?_; clear E a; intro a E)
          refine zp E (zAl E rfl rfl rfl rfl) ?_; clear E a; intro a E
          refine zp E (zAf E rfl rfl) ?_; clear E a; intro a E
          refine wpList_nil ?_
          refine zAh hK ?_; clear hK; clear K
          refine wp_ret ?_
          refine zBi ?_; clear hK; clear K
          refine ret1 E rfl rfl ?_
          exact ⟨_, rfl, by first | rfl | (exfalso; simp_all; omega), (S.only (Bs := [O]) (zAd (by repeat (first | exact pk1 | apply zAa)) (zAk _))).tr⟩
        · have hb84n := hb84; replace hb84n := Nrm.nrm hb84n
          refine zy E hb84 (zAe E rfl rfl) ?_; clear E a; intro a E
          refine zy E hb84 (by first | exact zBz E rfl rfl rfl | exact zAy E rfl rfl rfl | exact zAt E rfl rfl rfl) ?_; clear E a; intro a E
          refine zy E hb84 (zDf E rfl rfl rfl) ?_; clear E a; intro a E
          refine zp E (zAr E rfl rfl hb84 rfl) ?_; clear E a; intro a E
          refine zp E (zAe E rfl rfl) ?_; clear E a; intro a E
          refine zAz E (t := 89) rfl (fun hb89 => ?_) (fun hb89 => ?_)
          · have hb89n := hb89; replace hb89n := Nrm.nrm hb89n
            iterate 2 (refine zn E hb89 ?_; clear E a; intro a E)
            refine zp E (zAl E rfl rfl hb89 rfl) ?_; clear E a; intro a E
            refine zp E (zAe E rfl rfl) ?_; clear E a; intro a E
            iterate 2 (refine zn E rfl ?_; clear E a; intro a E)
            refine zp E (zAl E rfl rfl rfl rfl) ?_; clear E a; intro a E
            refine zp E (zAe E rfl rfl) ?_; clear E a; intro a E
            iterate 2 (refine zn E rfl ?_; clear E a; intro a E)
            refine zp E (zAl E rfl rfl rfl rfl) ?_; clear E a; intro a E
            refine zp E (zAe E rfl rfl) ?_; clear E a; intro a E
            iterate 7 (refine zn E rfl ?_; clear E a; intro a E)
            refine zp E (zAl E rfl rfl rfl rfl) ?_; clear E a; intro a E
            refine zp E (zAf E rfl rfl) ?_; clear E a; intro a E
            refine wpList_nil ?_
            refine zAh hK ?_; clear hK; clear K
            refine wp_ret ?_
            refine zBi ?_; clear hK; clear K
            refine ret1 E rfl rfl ?_
            exact ⟨_, rfl, by first | rfl | (exfalso; simp_all; omega), (S.only (Bs := [O]) (zAd (by repeat (first | exact pk1 | apply zAa)) (zAk _))).tr⟩
          · have hb89n := hb89; replace hb89n := Nrm.nrm hb89n
            refine zy E hb89 (zAe E rfl rfl) ?_; clear E a; intro a E
            refine zy E hb89 (zCd E rfl rfl rfl) ?_; clear E a; intro a E
            refine zp E (zAr E rfl rfl hb89 rfl) ?_; clear E a; intro a E
            refine zp E (zAe E rfl rfl) ?_; clear E a; intro a E
            refine zAz E (t := 93) rfl (fun hb93 => ?_) (fun hb93 => ?_)
            · have hb93n := hb93; replace hb93n := Nrm.nrm hb93n
              iterate 2 (refine zn E hb93 ?_; clear E a; intro a E)
              refine zp E (zAl E rfl rfl hb93 rfl) ?_; clear E a; intro a E
              refine zp E (zAe E rfl rfl) ?_; clear E a; intro a E
              iterate 2 (refine zn E rfl ?_; clear E a; intro a E)
              refine zp E (zAl E rfl rfl rfl rfl) ?_; clear E a; intro a E
              refine zp E (zAe E rfl rfl) ?_; clear E a; intro a E
              iterate 7 (refine zn E rfl ?_; clear E a; intro a E)
              refine zp E (zAl E rfl rfl rfl rfl) ?_; clear E a; intro a E
              refine zp E (zAf E rfl rfl) ?_; clear E a; intro a E
              refine wpList_nil ?_
              refine zAh hK ?_; clear hK; clear K
              refine wp_ret ?_
              refine zBi ?_; clear hK; clear K
              refine ret1 E rfl rfl ?_
              exact ⟨_, rfl, by first | rfl | (exfalso; simp_all; omega), (S.only (Bs := [O]) (zAd (by repeat (first | exact pk1 | apply zAa)) (zAk _))).tr⟩
            · have hb93n := hb93; replace hb93n := Nrm.nrm hb93n
              refine zy E hb93 (zAe E rfl rfl) ?_; clear E a; intro a E
              refine zy E hb93 (zDf E rfl rfl rfl) ?_; clear E a; intro a E
              refine zp E (zAr E rfl rfl hb93 rfl) ?_; clear E a; intro a E
              refine zp E (zAe E rfl rfl) ?_; clear E a; intro a E
              refine zAz E (t := 97) rfl (fun hb97 => ?_) (fun hb97 => ?_)
              · have hb97n := hb97; replace hb97n := Nrm.nrm hb97n
                iterate 2 (refine zn E hb97 ?_; clear E a; intro a E)
                refine zp E (zAl E rfl rfl hb97 rfl) ?_; clear E a; intro a E
                refine zp E (zAe E rfl rfl) ?_; clear E a; intro a E
                iterate 7 (refine zn E rfl ?_; clear E a; intro a E)
                refine zp E (zAl E rfl rfl rfl rfl) ?_; clear E a; intro a E
                refine zp E (zAf E rfl rfl) ?_; clear E a; intro a E
                refine wpList_nil ?_
                refine zAh hK ?_; clear hK; clear K
                refine wp_ret ?_
                refine zBi ?_; clear hK; clear K
                refine ret1 E rfl rfl ?_
                exact ⟨_, rfl, by first | rfl | (exfalso; simp_all; omega), (S.only (Bs := [O]) (zAd (by repeat (first | exact pk1 | apply zAa)) (zAk _))).tr⟩
              · have hb97n := hb97; replace hb97n := Nrm.nrm hb97n
                refine zy E hb97 (zAe E rfl rfl) ?_; clear E a; intro a E
                refine zy E hb97 (zCd E rfl rfl rfl) ?_; clear E a; intro a E
                refine zp E (zAr E rfl rfl hb97 rfl) ?_; clear E a; intro a E
                refine zp E (zAe E rfl rfl) ?_; clear E a; intro a E
                refine zAz E (t := 101) rfl (fun hb101 => ?_) (fun hb101 => ?_)
                · have hb101n := hb101; replace hb101n := Nrm.nrm hb101n
                  iterate 7 (refine zn E hb101 ?_; clear E a; intro a E)
                  refine zp E (zAl E rfl rfl hb101 rfl) ?_; clear E a; intro a E
                  refine zp E (zAf E rfl rfl) ?_; clear E a; intro a E
                  refine wpList_nil ?_
                  refine zAh hK ?_; clear hK; clear K
                  refine wp_ret ?_
                  refine zBi ?_; clear hK; clear K
                  refine ret1 E rfl rfl ?_
                  exact ⟨_, rfl, by first | rfl | (exfalso; simp_all; omega), (S.only (Bs := [O]) (zAd (by repeat (first | exact pk1 | apply zAa)) (zAk _))).tr⟩
                · have hb101n := hb101; replace hb101n := Nrm.nrm hb101n
                  iterate 2 (refine zy E hb101 (zAe E rfl rfl) ?_; clear E a; intro a E)
                  refine zy E hb101 (by first | exact zBz E rfl rfl rfl | exact zAy E rfl rfl rfl | exact zAt E rfl rfl rfl) ?_; clear E a; intro a E
                  refine zy E hb101 (zBu E rfl rfl rfl (w_in (by omega))) ?_; clear E a; intro a E
                  refine zy E hb101 (zFt E rfl rfl rfl (by first | decide | omega) (show IntKind.i64.wrap (((b.length : Int) + 127).tdiv 128) = ((b.length : Int) + 127) / 128 by rw [Int.tdiv_eq_ediv_of_nonneg (by omega)]; exact w_in (by omega))) ?_; clear E a; intro a E
                  refine zy E hb101 (zDg E rfl rfl rfl (w_in (by omega))) ?_; clear E a; intro a E
                  refine zy E hb101 (zDf E rfl rfl rfl) ?_; clear E a; intro a E
                  refine zp E (zAr E rfl rfl hb101 rfl) ?_; clear E a; intro a E
                  refine zp E (zAf E rfl rfl) ?_; clear E a; intro a E
                  refine wpList_nil ?_
                  refine zAh hK ?_; clear hK; clear K
                  refine wp_ret ?_
                  refine zBi ?_; clear hK; clear K
                  refine ret1 E rfl rfl ?_
                  exact ⟨_, rfl, by first | rfl | (exfalso; simp_all; omega), (S.only (Bs := [O]) (zAd (by repeat (first | exact pk1 | apply zAa)) (zAk _))).tr⟩
end Go.Proofs.YtidhehcjafoneaaGreatDoor
