/-
  Texts put together (16).
-/
import Derived.Test.YtidhehcjafoneaaGreatDoorZMirrorAlone15
namespace Go.Proofs.YtidhehcjafoneaaGreatDoor
open Go.Sl
set_option maxRecDepth 10000
theorem flush_up {R : Rk} {xs : List (Nat × Nat)} {k : Nat} (hU : Up R xs k) (hall : ∀ x ∈ xs, (dkOf R x.2).failed = false) :
    Up ((flTo R (lvs xs) xs.length).1.up []) xs k ∧ ∀ x ∈ xs, (dkOf ((flTo R (lvs xs) xs.length).1.up []) x.2).failed = false ∧ (dkOf ((flTo R (lvs xs) xs.length).1.up []) x.2).now = (dkOf R x.2).now := by
  obtain ⟨h1, h2, h3, h4, h5⟩ := zJp hU hall xs.length (Nat.le_refl _)
  generalize flTo R (lvs xs) xs.length = F at *
  have hds : (F.1.up []).ds = F.1.ds.map Dk.settle := by show (upW F.1.ws [] F.1.ds).map Dk.settle = _; rw [upW_none]
  have hnd : ((F.1.up []).ds.map Dk.d).Nodup := by rw [hds, List.map_map]; exact h2
  have key : ∀ x ∈ xs, (F.1.up []).has x.2 ∧ dkOf (F.1.up []) x.2 = { dkOf R x.2 with pl := (dkOf R x.2).now } := fun x hx => by
    obtain ⟨g1, g2⟩ := h5 x.2 (hU.has x hx)
    rw [List.take_length, if_pos (List.mem_map_of_mem hx)] at g2
    obtain ⟨m1, m2⟩ := zDb g1
    have hm : (dkOf F.1 x.2).settle ∈ (F.1.up []).ds := by rw [hds]; exact List.mem_map_of_mem m1
    have e := dkOf_eq hnd hm
    rw [show (dkOf F.1 x.2).settle.d = x.2 from m2] at e
    exact ⟨⟨_, hm, m2⟩, by rw [e, g2]; rfl⟩
  refine ⟨⟨⟨rfl, rfl⟩, hnd, fun x hx => (key x hx).1, fun x hx => ?_, fun x hx => ?_, by show ([] : List Wt).length ≤ _; simp, ?_⟩, fun x hx => ?_⟩
  · rw [(key x hx).2]; exact hU.nw x hx
  · rw [(key x hx).2]; exact hU.nw x hx
  · show F.1.pw.wr ≤ _
    rw [h1]; exact hU.wr
  · rw [(key x hx).2]; exact ⟨hall x hx, rfl⟩
theorem mread_lost (P : Nat) (R : Rk) (C : zAs) (hC : RkC P R C) (xs : List (Nat × Nat)) (k : Nat) (hU : Up R xs k) (hk : k ≤ 1000) (hx5 : xs.length ≤ 5) (hnd : (xs.map Prod.snd).Nodup) (Lv : zAs) (hLv : LvC (lvs xs) Lv) (t : Nat) (vl vk : Value) (CL : zAs) (hCL : Buf CL 49 1 vl xs.length ((lvs xs).map lv))
    (at_ : Int) (ha : -9223372036854775808 ≤ at_ ∧ at_ ≤ 9223372036854775807) (G : zAs) (hG : Tab [G] 2 shaK) (b : List UInt8) (hfit : zEj 32 at_ b.length) (kind : Int) (hkd : kind = 1 ∨ kind = 2) (s : Fs)
    (hlost : ∀ x ∈ xs, (dkOf R x.2).failed = true) (w0 : World) (H : Hp w0 [C, Lv, [(t, mtcl vl vk 32)], CL, G]) :
    Ret Tryz.prog 13 #[ptr t, .int .i64 at_, .int .i64 b.length, .int .i64 kind, s.agg] w0 fun u w' => ∃ v Cg C' Lv', u = .tuple #[v, .int .i64 4] ∧ Trs w0 w' [C, Lv, [(t, mtcl vl vk 32)], CL, G] [Cg, C', Lv', [(t, mtcl vl vk 32)], CL, G] := by
  have hws := hU.ws
  have hwr := hU.wr
  refine (mread_ret P R C hC hU.on xs hx5 hnd Lv hLv hU.has 32 hU.size (by omega) (by omega) (by omega) t vl vk CL hCL G hG at_ ha b.length hfit kind hkd s w0 H).mono fun u w' ⟨i, vg, n, e, Cg, R', C', Lv', hce, hu, hRd, hC', hLv', hle, hT⟩ => ?_
  rcases hle with ⟨_, he, _⟩ | ⟨g, hg, _⟩
  · subst he; exact ⟨vg, Cg, C', Lv', hu, hT⟩
  · obtain ⟨_, _, q3, _⟩ := zFk (chk := chkK kind s) (rd := rdK R (274 + at_).toNat b) xs i hce.1
    obtain ⟨_, x, hx, hr⟩ := q3 g hg
    rw [rdK_failed (hlost x (List.mem_of_mem_take hx))] at hr; cases hr
theorem alone_walk (O : zAs) (hL : Lay3 O) (n at_ : Int) (ha : -9223372036854775808 ≤ at_ ∧ at_ ≤ 9223372036854775807) (v : Value) (b : List UInt8) (hb0 : Rd O 1 v b.length (byt b)) (hbl : b.length ≤ 140737488352000) (kind k : Int) (w0 : World) (H : Hp w0 [O]) :
    Ret Tryz.prog 4 #[.int .i64 n, .int .i64 at_, v, .int .i64 kind, .int .i64 k] w0 fun u w' => u = .bool true ∧ Trs w0 w' [O] [O] := by
  have S := St.begin H
  obtain ⟨adb, cb, rfl⟩ := hb0.slice
  obtain ⟨n1, n2, n3, n4⟩ := zEo b.length
  refine enter5 178 Tryz.func4 rfl rfl (by decide) ?_; intro a E
  refine wp_seq_k ?_; intro K hK
  refine zAc ?_
  refine zp E (zAg E rfl rfl) ?_; clear E a; intro a E
  refine wpList_nil ?_
  refine zAh hK ?_; clear hK; clear K
  refine wp_seq_k ?_; intro K hK
  refine zAc ?_
  refine zAr E rfl rfl (by decide) rfl Tryz.func5 rfl (by kernel_rfl) rfl (awake_ret O hL.1 _ S.hp) ?_
  rintro v24 w ⟨rfl, hT⟩; clear E a; intro a E
  have S := S.all hT
  refine zp E (zAg E rfl rfl) ?_; clear E a; intro a E
  refine wpList_nil ?_
  refine zAh hK ?_; clear hK; clear K
  iterate 2 (refine wp_seq_k ?_; intro K hK)
  refine zFe (fun (a : Act) (w' : World) => ∃ bt : Bool, (bt = true ↔ ¬ (1 ≤ n ∧ n ≤ 5 ∧ 0 ≤ k ∧ k < n)) ∧ St w0 [O] w' [O] ∧ Fr a 178 [(0, .int .i64 n), (1, .int .i64 at_), (2, .slice adb b.length cb), (3, .int .i64 kind), (4, .int .i64 k), (11, .bool true), (39, .bool bt)]) ?_ ?_
  · skip
    refine zAc ?_
    refine zp E (zAe E rfl rfl) ?_; clear E a; intro a E
    refine zp E (zCb E rfl rfl rfl) ?_; clear E a; intro a E
    refine zp E (zAe E rfl rfl) ?_; clear E a; intro a E
    refine zAy E (t := 27) rfl (fun hb27 => ?_) (fun hb27 => ?_)
    · have hb27n := hb27; replace hb27n := Nrm.nrm hb27n
      iterate 2 (refine zn E hb27 ?_; clear E a; intro a E)
      refine zp E (zAm E rfl rfl hb27 rfl) ?_; clear E a; intro a E
      refine zp E (zAe E rfl rfl) ?_; clear E a; intro a E
      iterate 2 (refine zn E rfl ?_; clear E a; intro a E)
      refine zp E (zAm E rfl rfl rfl rfl) ?_; clear E a; intro a E
      refine zp E (zAe E rfl rfl) ?_; clear E a; intro a E
      iterate 3 (refine zn E rfl ?_; clear E a; intro a E)
      refine zp E (zAm E rfl rfl rfl rfl) ?_; clear E a; intro a E
      refine wpList_nil ?_
      refine zBp ?_
      exact ⟨_, by first | (simp; omega) | (simp only [decide_eq_true_eq]; omega), S, E.keep (zAb rfl (zAb rfl (zAb rfl (zAb rfl (zAb rfl (zAb rfl (zAb rfl zAp)))))))⟩
    · have hb27n := hb27; replace hb27n := Nrm.nrm hb27n
      refine zy E hb27 (zAe E rfl rfl) ?_; clear E a; intro a E
      refine zy E hb27 (zDd E rfl rfl rfl) ?_; clear E a; intro a E
      refine zp E (zAq E rfl rfl hb27 rfl) ?_; clear E a; intro a E
      refine zp E (zAe E rfl rfl) ?_; clear E a; intro a E
      refine zAy E (t := 31) rfl (fun hb31 => ?_) (fun hb31 => ?_)
      · have hb31n := hb31; replace hb31n := Nrm.nrm hb31n
        iterate 2 (refine zn E hb31 ?_; clear E a; intro a E)
        refine zp E (zAm E rfl rfl hb31 rfl) ?_; clear E a; intro a E
        refine zp E (zAe E rfl rfl) ?_; clear E a; intro a E
        iterate 3 (refine zn E rfl ?_; clear E a; intro a E)
        refine zp E (zAm E rfl rfl rfl rfl) ?_; clear E a; intro a E
        refine wpList_nil ?_
        refine zBp ?_
        exact ⟨_, by first | (simp; omega) | (simp only [decide_eq_true_eq]; omega), S, E.keep (zAb rfl (zAb rfl (zAb rfl (zAb rfl (zAb rfl (zAb rfl (zAb rfl zAp)))))))⟩
      · have hb31n := hb31; replace hb31n := Nrm.nrm hb31n
        refine zy E hb31 (zAe E rfl rfl) ?_; clear E a; intro a E
        refine zy E hb31 (zCb E rfl rfl rfl) ?_; clear E a; intro a E
        refine zp E (zAq E rfl rfl hb31 rfl) ?_; clear E a; intro a E
        refine zp E (zAe E rfl rfl) ?_; clear E a; intro a E
        refine zAy E (t := 35) rfl (fun hb35 => ?_) (fun hb35 => ?_)
        · have hb35n := hb35; replace hb35n := Nrm.nrm hb35n
          iterate 3 (refine zn E hb35 ?_; clear E a; intro a E)
          refine zp E (zAm E rfl rfl hb35 rfl) ?_; clear E a; intro a E
          refine wpList_nil ?_
          refine zBp ?_
          exact ⟨_, by first | (simp; omega) | (simp only [decide_eq_true_eq]; omega), S, E.keep (zAb rfl (zAb rfl (zAb rfl (zAb rfl (zAb rfl (zAb rfl (zAb rfl zAp)))))))⟩
        · have hb35n := hb35; replace hb35n := Nrm.nrm hb35n
          iterate 2 (refine zy E hb35 (zAe E rfl rfl) ?_; clear E a; intro a E)
          refine zy E hb35 (zDs E rfl rfl rfl) ?_; clear E a; intro a E
          refine zp E (zAq E rfl rfl hb35 rfl) ?_; clear E a; intro a E
          refine wpList_nil ?_
          refine zBp ?_
          exact ⟨_, by first | (simp; omega) | (simp only [decide_eq_true_eq]; omega), S, E.keep (zAb rfl (zAb rfl (zAb rfl (zAb rfl (zAb rfl (zAb rfl (zAb rfl zAp)))))))⟩
  · clear E S a; intro a w J; obtain ⟨bt, hbt, S, E⟩ := J
    refine zAh hK ?_; clear hK; clear K
    refine zBl E rfl (fun hb => ?_) (fun hb => ?_)
    · replace hb := Nrm.nrm hb
      skip
      refine wp_seq_k ?_; intro K hK
      refine zAc ?_
      refine zp E (zAe E rfl rfl) ?_; clear E a; intro a E
      refine zp E (zAg E rfl rfl) ?_; clear E a; intro a E
      refine wpList_nil ?_
      refine zAh hK ?_; clear hK; clear K
      refine wp_ret ?_
      refine zBi ?_; clear hK; clear K
      refine ret1 E rfl rfl ?_
      exact ⟨_, rfl, rfl, S.tr⟩
    · replace hb := Nrm.nrm hb
      have hp : 1 ≤ n ∧ n ≤ 5 ∧ 0 ≤ k ∧ k < n := (by have := mt hbt.2 (by simp [hb]); exact Classical.not_not.1 this)
      refine wp_skip ?_
      refine zAh hK ?_; clear hK; clear K
      refine wp_seq_k ?_; intro K hK
      obtain ⟨nn, rfl⟩ : ∃ nn : Nat, n = nn := ⟨n.toNat, by omega⟩
      obtain ⟨kk, rfl⟩ : ∃ kk : Nat, k = kk := ⟨k.toNat, by omega⟩
      refine zAc ?_
      refine zp E (zAe E rfl rfl) ?_; clear E a; intro a E
      refine zAr E rfl rfl (by decide) rfl Tryz.func6 rfl (by kernel_rfl) rfl (begun_ret nn (by omega) _) ?_
      rintro v43 w ⟨x, p, t, R, C, xs, Lv, vl, vk, CL, CK, vD, CD, vL, CLs, v4, v5, v6, v7, rfl, hGk, hCL, hCK, hCD, hCLs, hT⟩; clear E a; intro a E
      have S := S.call (zAk _) hT; simp only [List.cons_append, List.nil_append] at S; have hU := hGk.up (by omega); have hlen := hGk.len; have hnd := hGk.nd; have hnf := fun x hx => (hGk.dk x hx).1; obtain ⟨hC, _, _, _, hLv⟩ := hGk
      obtain ⟨adD, cD, rfl⟩ := hCD.slice
      obtain ⟨gD, rfl⟩ := hCD.addr (by omega)
      obtain ⟨adl, cl, rfl⟩ := hCL.slice
      refine zp E (zAe E rfl rfl) ?_; clear E a; intro a E
      iterate 3 (refine zp E (zBx E rfl rfl rfl) ?_; clear E a; intro a E)
      iterate 3 (refine zp E (zAg E rfl rfl) ?_; clear E a; intro a E)
      refine wpList_nil ?_
      refine zAh hK ?_; clear hK; clear K
      refine wp_seq_k ?_; intro K hK
      refine zAc ?_
      iterate 2 (refine zp E (zAe E rfl rfl) ?_; clear E a; intro a E)
      refine zAr E rfl rfl (by decide) rfl Tryz.func7 rfl (by kernel_rfl) rfl (dsumK_ret O _ b hb0 hbl _ (by repeat (first | exact mm1 | assumption | apply List.Mem.tail)) (hL.2.1.sub (fun Q hQ => by rw [List.mem_singleton.1 hQ]; exact (by repeat (first | exact mm1 | assumption | apply List.Mem.tail)))) (hL.2.2.sub (fun Q hQ => by rw [List.mem_singleton.1 hQ]; exact (by repeat (first | exact mm1 | assumption | apply List.Mem.tail)))) kind _ S.hp) ?_
      rintro v50 w ⟨rfl, hT⟩; clear E a; intro a E
      have S := S.all hT
      refine zp E (zAe E rfl rfl) ?_; clear E a; intro a E
      iterate 2 (refine zp E (zBx E rfl rfl rfl) ?_; clear E a; intro a E)
      refine zAo rfl (zCc E S rfl rfl (by decide) rfl rfl rfl ?_); clear E S a; intro a w b15 E S
      refine zAo rfl (zCg E S rfl rfl rfl rfl (by simp [Value.oneCell']) rfl (by repeat (first | exact pk1 | apply zAa)) (by simp) ?_); clear E S a; intro a w E S; simp only [List.take_succ_cons, List.take_zero, List.drop_succ_cons, List.drop_zero, List.cons_append, List.nil_append, List.append_nil, List.length_cons, List.length_nil, Nat.zero_add, Nat.add_zero] at S
      refine zp E (zAg E rfl rfl) ?_; clear E a; intro a E
      refine wpList_nil ?_
      refine zAh hK ?_; clear hK; clear K
      iterate 2 (refine wp_seq_k ?_; intro K hK)
      replace E := E.keep (e' := [(0, _), (1, _), (2, _), (3, _), (4, _), (11, _), (12, _), (13, _), (15, _), (16, _)]) (zAb rfl (zAb rfl (zAb rfl (zAb rfl (zAb rfl (zAb rfl (zAb rfl (zAb rfl (zAb rfl (zAb rfl (zAp)))))))))))
      refine zAc ?_
      refine zp E (zAe E rfl rfl) ?_; clear E a; intro a E
      refine zp E (zEg E rfl rfl) ?_; clear E a; intro a E
      refine zp E (zAe E rfl rfl) ?_; clear E a; intro a E
      refine zCh E (t := 55) rfl (rfl) (fun hb55 => ?_)
      refine zy E hb55 (zAe E rfl rfl) ?_; clear E a; intro a E
      refine zy E hb55 (zEg E rfl rfl) ?_; clear E a; intro a E
      refine zp E (zAq E rfl rfl hb55 rfl) ?_; clear E a; intro a E
      refine wpList_nil ?_
      refine zAh hK ?_; clear hK; clear K
      refine zBt E rfl (rfl) ?_
      refine wp_skip ?_
      refine zAh hK ?_; clear hK; clear K
      refine wp_seq_k ?_; intro K hK
      obtain ⟨sm, hsm⟩ : ∃ sm, sm = sumK kind b := ⟨_, rfl⟩
      rw [← hsm] at E S
      have hse : sm.2 = 0 ↔ (kind = 1 ∨ kind = 2) := by rw [hsm]; exact sumK_err
      refine zAc ?_
      rcases (show ((kind = 1 ∨ kind = 2) ∧ zEj 32 at_ b.length) ∨ ¬ zEj 32 at_ b.length ∨ (¬ (kind = 1 ∨ kind = 2) ∧ zEj 32 at_ b.length) by by_cases h1 : kind = 1 ∨ kind = 2 <;> by_cases h2 : zEj 32 at_ b.length <;> simp [h1, h2]) with ⟨hk12, hfit⟩ | hfit | ⟨hk12, hfit⟩
      · skip
        refine zp E (zAe E rfl rfl) ?_; clear E a; intro a E
        refine zp E (zAl E rfl rfl) ?_; clear E a; intro a E
        refine zp E (by first | exact zAf (q := 3) E rfl rfl rfl | exact zAi (q := 3) E rfl rfl rfl) ?_; clear E a; intro a E
        refine zp E (by first | exact zAn E rfl rfl rfl (S.get (by repeat (first | exact pk1 | apply zAa))) rfl | exact zAj E rfl rfl rfl (by assumption)) ?_; clear E a; intro a E
        iterate 2 (refine zp E (zAe E rfl rfl) ?_; clear E a; intro a E)
        refine zAr E rfl rfl (by decide) rfl Tryz.func8 rfl (by kernel_rfl) rfl (zIs p R C hC xs 0 hU (by omega) (by omega) hnd Lv hLv t _ vk CL hCL at_ ha hnf b _ O hb0 (by omega) 1 (by omega) hfit _ (S.hp.sel (zAd (by repeat (first | exact pk1 | apply zAa)) (zAd (by repeat (first | exact pk1 | apply zAa)) (zAd (by repeat (first | exact pk1 | apply zAa)) (zAd (by repeat (first | exact pk1 | apply zAa)) (zAd (by repeat (first | exact pk1 | apply zAa)) (zAk _)))))))) ?_
        rintro v65 w ⟨rfl, R1, C1, Lv1, hC1, hLv1, hU1, hW1, hT⟩; clear E a; intro a E
        have S := S.call (zAd (by repeat (first | exact pk1 | apply zAa)) (zAd (by repeat (first | exact pk1 | apply zAa)) (zAd (by repeat (first | exact pk1 | apply zAa)) (zAd (by repeat (first | exact pk1 | apply zAa)) (zAd (by repeat (first | exact pk1 | apply zAa)) (zAk _)))))) hT; simp only [List.cons_append, List.nil_append] at S
        refine zp E (zAg E rfl rfl) ?_; clear E a; intro a E
        refine wpList_nil ?_
        refine zAh hK ?_; clear hK; clear K
        iterate 2 (refine wp_seq_k ?_; intro K hK)
        replace E := E.keep (e' := [(0, _), (1, _), (2, _), (3, _), (4, _), (12, _), (15, _), (16, _), (17, _)]) (zAb rfl (zAb rfl (zAb rfl (zAb rfl (zAb rfl (zAb rfl (zAb rfl (zAb rfl (zAb rfl (zAp))))))))))
        refine zAc ?_
        refine zp E (zAe E rfl rfl) ?_; clear E a; intro a E
        refine zp E (by first | exact zCu E rfl rfl rfl | exact zAz E rfl rfl rfl rfl | exact zBj E rfl rfl rfl rfl | exact zBd E rfl rfl rfl) ?_; clear E a; intro a E
        refine zp E (zAe E rfl rfl) ?_; clear E a; intro a E
        refine zCh E (t := 68) rfl ((by rw [hse.2 hk12]; rfl)) (fun hb68 => ?_)
        refine zy E hb68 (zAe E rfl rfl) ?_; clear E a; intro a E
        refine zy E hb68 (by first | exact zCu E rfl rfl rfl | exact zAz E rfl rfl rfl rfl | exact zBj E rfl rfl rfl rfl | exact zBd E rfl rfl rfl) ?_; clear E a; intro a E
        refine zp E (zAq E rfl rfl hb68 rfl) ?_; clear E a; intro a E
        refine wpList_nil ?_
        refine zAh hK ?_; clear hK; clear K
        refine zBt E rfl (rfl) ?_
        refine wp_skip ?_
        refine zAh hK ?_; clear hK; clear K
        refine wp_seq_k ?_; intro K hK
        obtain ⟨f1, f2, f3, f4⟩ := id hfit
        have hck : chkK kind sm.1 b = true := by rw [hsm]; exact chkK_self hk12 b
        have hkl : kk < xs.length := by omega
        have hf1 : ∀ x ∈ xs, (dkOf R1 x.2).failed = false := fun x hx => (hW1 x hx).1
        obtain ⟨_, _, _, h20, _⟩ := zJp hU1 hf1 xs.length (Nat.le_refl _)
        obtain ⟨hU3, hK3⟩ := flush_up hU1 hf1
        refine zAc ?_
        refine zp E (zAe E rfl rfl) ?_; clear E a; intro a E
        refine zp E (zAl E rfl rfl) ?_; clear E a; intro a E
        refine zp E (by first | exact zAf (q := 3) E rfl rfl rfl | exact zAi (q := 3) E rfl rfl rfl) ?_; clear E a; intro a E
        refine zp E (by first | exact zAn E rfl rfl rfl (S.get (by repeat (first | exact pk1 | apply zAa))) rfl | exact zAj E rfl rfl rfl (by assumption)) ?_; clear E a; intro a E
        refine zAr E rfl rfl (by decide) rfl Tryz.func16 rfl (by kernel_rfl) rfl (mflush_ret p R1 C1 hC1 hU1.on.off (lvs xs) Lv1 hLv1 (fun x hx => hU1.has x (by simpa [lvs] using hx)) (by simp; omega) t _ vk 32 CL (by simpa using hCL) _ (S.hp.sel (zAd (by repeat (first | exact pk1 | apply zAa)) (zAd (by repeat (first | exact pk1 | apply zAa)) (zAd (by repeat (first | exact pk1 | apply zAa)) (zAd (by repeat (first | exact pk1 | apply zAa)) (zAk _))))))) ?_
        rintro v105 w ⟨rfl, C2, Lv2, hC2, hLv2, hT⟩; clear E a; intro a E
        have S := S.call (zAd (by repeat (first | exact pk1 | apply zAa)) (zAd (by repeat (first | exact pk1 | apply zAa)) (zAd (by repeat (first | exact pk1 | apply zAa)) (zAd (by repeat (first | exact pk1 | apply zAa)) (zAk _))))) hT; simp only [List.cons_append, List.nil_append] at S; rw [show (lvs xs).length = xs.length by simp, h20 (by omega)] at E; rw [show (lvs xs).length = xs.length by simp] at hC2
        refine zp E (zAg E rfl rfl) ?_; clear E a; intro a E
        refine wpList_nil ?_
        refine zAh hK ?_; clear hK; clear K
        refine wp_seq_k ?_; intro K hK
        refine zAc ?_
        refine zp E (zAe E rfl rfl) ?_; clear E a; intro a E
        refine zp E (zAl E rfl rfl) ?_; clear E a; intro a E
        refine zp E (by first | exact zAf (q := 0) E rfl rfl rfl | exact zAi (q := 0) E rfl rfl rfl) ?_; clear E a; intro a E
        refine zp E (by first | exact zAn E rfl rfl rfl (S.get (by repeat (first | exact pk1 | apply zAa))) rfl | exact zAj E rfl rfl rfl (by assumption)) ?_; clear E a; intro a E
        refine zAr E rfl rfl (by decide) rfl Tryz.func17 rfl (by kernel_rfl) rfl (rk_up p _ C2 hC2 (.slice none 0 0) [] [] (Buf.nil 4 1).rd _ (S.addNil.hp.sel (zAd (by repeat (first | exact pk1 | apply zAa)) (zAd (by repeat (first | exact pk1 | apply zAa)) (zAk _))))) ?_
        rintro v110 w ⟨C3, hC3, hT⟩; clear E a; intro a E
        have S := S.addNil.call2 (zAd (by repeat (first | exact pk1 | apply zAa)) (zAd (by repeat (first | exact pk1 | apply zAa)) (zAk _))) hT
        refine wpList_nil ?_
        refine zAh hK ?_; clear hK; clear K
        iterate 2 (refine wp_seq_k ?_; intro K hK)
        replace E := E.keep (e' := [(0, _), (1, _), (2, _), (3, _), (4, _), (12, _), (15, _), (18, _)]) (zAb rfl (zAb rfl (zAb rfl (zAb rfl (zAb rfl (zAb rfl (zAb rfl (zAb rfl (zAp)))))))))
        obtain ⟨R3, hR3⟩ : ∃ R3, R3 = (flTo R1 (lvs xs) xs.length).1.up [] := ⟨_, rfl⟩
        rw [← hR3] at hC3 hU3 hK3
        have hr3 : ∀ x ∈ xs, rdK R3 (274 + at_).toNat b x = some b := fun x hx => by
          have h1 := (hW1 x hx).2
          rw [rdK_well (hf1 x hx)] at h1
          rw [rdK_well (hK3 x hx).1, ← h1]; unfold secC; rw [(hK3 x hx).2]
        refine zAc ?_
        refine zp E (zAg E rfl rfl) ?_; clear E a; intro a E
        refine wpList_nil ?_
        refine zAh hK ?_; clear hK; clear K
        refine wp_block ?_
        refine wp_loop_ghost (fun (m : Nat) (a : Act) (w' : World) => ∃ (i : Nat) (R : Rk) (C : zAs), m = nn - i ∧ i ≤ nn ∧ RkC p R C ∧ Spoilt R xs (274 + at_).toNat b (chkK kind sm.1) kk i ∧ (∀ j (h : j < xs.length), j < i → j ≠ kk → (dkOf R xs[j].2).failed = true) ∧ St w0 [O] w' [[(x, rigcl p (.slice (some ⟨gD, 0, none⟩) xs.length cD) vL (ptr t) v4 v5 v6 v7)], [(b15, cel [.int .u64 sm.1.a, .int .u64 sm.1.b, .int .u64 sm.1.c, .int .u64 sm.1.d] 31)], C, Lv2, [(t, mtcl (.slice adl xs.length cl) vk 32)], CL, CD, O] ∧
          Fr a 178 [(0, .int .i64 nn), (1, .int .i64 at_), (2, .slice adb b.length cb), (3, .int .i64 kind), (4, .int .i64 kk), (12, ptr x), (15, ptr b15), (18, .int .i64 0), (19, .int .i64 i)]) (nn - 0) ?_ ?_
        · exact ⟨0, R3, C3, rfl, by omega, hC3, ⟨hU3, fun h => ⟨(hK3 _ (List.getElem_mem h)).1, hr3 _ (List.getElem_mem h)⟩, fun j h _ => ⟨(hK3 _ (List.getElem_mem h)).1, hr3 _ (List.getElem_mem h)⟩, fun y hy c hc _ => by rw [hr3 y hy] at hc; cases hc; rfl⟩, fun j h q => absurd q (by omega), S.only (zAd (by repeat (first | exact pk1 | apply zAa)) (zAd (by repeat (first | exact pk1 | apply zAa)) (zAd (by repeat (first | exact pk1 | apply zAa)) (zAd (by repeat (first | exact pk1 | apply zAa)) (zAd (by repeat (first | exact pk1 | apply zAa)) (zAd (by repeat (first | exact pk1 | apply zAa)) (zAd (by repeat (first | exact pk1 | apply zAa)) (zAd (by repeat (first | exact pk1 | apply zAa)) (zAk _))))))))), E.keep (zAb rfl (zAb rfl (zAb rfl (zAb rfl (zAb rfl (zAb rfl (zAb rfl (zAb rfl (zAb rfl zAp)))))))))⟩
        clear E; clear a; (try clear S); rintro m a w ⟨i, R, C, rfl, hi, hC, hSp, hlost, S, E⟩
        iterate 2 (refine wp_seq_k ?_; intro K hK)
        refine zAc ?_
        iterate 2 (refine zp E (zAe E rfl rfl) ?_; clear E a; intro a E)
        refine zp E (zCb E rfl rfl rfl) ?_; clear E a; intro a E
        refine wpList_nil ?_
        refine zAh hK ?_; clear hK; clear K
        refine zBl E rfl (fun hb => ?_) (fun hb => ?_)
        · replace hb := Nrm.nrm hb
          refine wp_skip ?_
          refine zAh hK ?_; clear hK; clear K
          refine wp_seq_k ?_; intro K hK
          refine wp_block ?_
          refine wp_seq_k ?_; intro K hK
          refine zAc ?_
          iterate 2 (refine zp E (zAe E rfl rfl) ?_; clear E a; intro a E)
          refine zp E (by first | exact zCu E rfl rfl rfl | exact zAz E rfl rfl rfl rfl | exact zBj E rfl rfl rfl rfl | exact zBd E rfl rfl rfl) ?_; clear E a; intro a E
          refine wpList_nil ?_
          refine zAh hK ?_; clear hK; clear K
          refine zBl E rfl (fun hb => ?_) (fun hb => ?_)
          · replace hb := Nrm.nrm hb
            have hik : i ≠ kk := (by omega)
            have hil : i < xs.length := by omega
            have hcellD : (xs.map fun y => ptr y.2)[i]? = some (ptr xs[i].2) := by rw [List.getElem?_map, List.getElem?_eq_getElem hil]; rfl
            have hmi : xs[i] ∈ xs := List.getElem_mem hil
            refine zAc ?_
            refine zp E (zAe E rfl rfl) ?_; clear E a; intro a E
            refine zp E (zAl E rfl rfl) ?_; clear E a; intro a E
            refine zp E (by first | exact zAf (q := 1) E rfl rfl rfl | exact zAi (q := 1) E rfl rfl rfl) ?_; clear E a; intro a E
            refine zp E (by first | exact zAn E rfl rfl rfl (S.get (by repeat (first | exact pk1 | apply zAa))) rfl | exact zAj E rfl rfl rfl (by assumption)) ?_; clear E a; intro a E
            refine zp E (zAe E rfl rfl) ?_; clear E a; intro a E
            refine zp E (zBk (i := i) E rfl rfl rfl rfl rfl rfl (by omega)) ?_; clear E a; intro a E
            refine zp E (zAj E rfl rfl rfl (hCD.rd.cells (S.stab.at (by repeat (first | exact mm1 | assumption | apply List.Mem.tail))) rfl i _ hcellD)) ?_; clear E a; intro a E
            refine zAr E rfl rfl (by decide) rfl Tryz.func9 rfl (by kernel_rfl) rfl (fail_in p R C hC xs 40 hSp.up xs[i] hmi _ (S.hp.sel (zAd (by repeat (first | exact pk1 | apply zAa)) (zAk _)))) ?_
            rintro v126 w ⟨C2, hC2, hT⟩; clear E a; intro a E
            have S := S.call1 (zAd (by repeat (first | exact pk1 | apply zAa)) (zAk _)) hT; obtain ⟨hU2, hK2⟩ := hSp.up.fail hmi
            refine wpList_nil ?_
            refine zBf ?_
            refine zAh hK ?_; clear hK; clear K
            refine zAc ?_
            refine zp E (zAe E rfl rfl) ?_; clear E a; intro a E
            refine zp E (zBu E rfl rfl rfl (w_in (by omega))) ?_; clear E a; intro a E
            refine zp E (zAg E rfl rfl) ?_; clear E a; intro a E
            refine wpList_nil ?_
            refine zBe ?_
            exact ⟨_, by omega, i + 1, _, C2, rfl, by omega, hC2, hSp.step hnd hil hik hU2 (fun x hx q => by rw [hK2 x hx, if_neg q]) (fun c hc _ => by rw [rdK_failed (by rw [hK2 _ hmi, if_pos rfl])] at hc; cases hc), (fun j hj hji hjk => by
              by_cases q : j = i
              · subst q; rw [hK2 _ hmi, if_pos rfl]
              · rw [hK2 _ (List.getElem_mem hj), if_neg (xs_ne hnd hil hj q)]; exact hlost j hj (by omega) hjk), S.only (zAd (by repeat (first | exact pk1 | apply zAa)) (zAd (by repeat (first | exact pk1 | apply zAa)) (zAd (by repeat (first | exact pk1 | apply zAa)) (zAd (by repeat (first | exact pk1 | apply zAa)) (zAd (by repeat (first | exact pk1 | apply zAa)) (zAd (by repeat (first | exact pk1 | apply zAa)) (zAd (by repeat (first | exact pk1 | apply zAa)) (zAd (by repeat (first | exact pk1 | apply zAa)) (zAk _))))))))), E.keep (zAb rfl (zAb rfl (zAb rfl (zAb rfl (zAb rfl (zAb rfl (zAb rfl (zAb rfl (zAb rfl zAp)))))))))⟩
          · replace hb := Nrm.nrm hb
            have hik : i = kk := (by omega)
            refine wp_skip ?_
            refine zBf ?_
            refine zAh hK ?_; clear hK; clear K
            refine zAc ?_
            refine zp E (zAe E rfl rfl) ?_; clear E a; intro a E
            refine zp E (zBu E rfl rfl rfl (w_in (by omega))) ?_; clear E a; intro a E
            refine zp E (zAg E rfl rfl) ?_; clear E a; intro a E
            refine wpList_nil ?_
            refine zBe ?_
            exact ⟨_, by omega, i + 1, R, C, rfl, by omega, hC, hSp.next, fun j hj hji hjk => hlost j hj (by omega) hjk, S.only (zAd (by repeat (first | exact pk1 | apply zAa)) (zAd (by repeat (first | exact pk1 | apply zAa)) (zAd (by repeat (first | exact pk1 | apply zAa)) (zAd (by repeat (first | exact pk1 | apply zAa)) (zAd (by repeat (first | exact pk1 | apply zAa)) (zAd (by repeat (first | exact pk1 | apply zAa)) (zAd (by repeat (first | exact pk1 | apply zAa)) (zAd (by repeat (first | exact pk1 | apply zAa)) (zAk _))))))))), E.keep (zAb rfl (zAb rfl (zAb rfl (zAb rfl (zAb rfl (zAb rfl (zAb rfl (zAb rfl (zAb rfl zAp)))))))))⟩
        · replace hb := Nrm.nrm hb
          refine wp_exit ?_
          refine zBb ?_; clear hK; clear K
          refine zBb ?_
          refine zCm ?_
          refine zAh hK ?_; clear hK; clear K
          refine wp_seq_k ?_; intro K hK
          obtain rfl : i = nn := by omega
          have hKp : Kept R xs (274 + at_).toNat b (chkK kind sm.1) xs[kk] := ⟨List.getElem_mem _, (hSp.keep hkl).2, hck, hSp.good⟩
          have hmk : xs[kk] ∈ xs := List.getElem_mem hkl
          have hcellK : (xs.map fun y => ptr y.2)[kk]? = some (ptr xs[kk].2) := by rw [List.getElem?_map, List.getElem?_eq_getElem hkl]; rfl
          refine zBo S (.ofL [(0, 0), (1, 0), (2, 0), (3, 0), (4, 0), (5, 0), (6, 0), (7, 0), (8, 0), (9, 3), (10, 2), (11, 2), (12, 2), (13, 2), (14, 2)]) (by kernel_rfl) (by kernel_rfl) ?_
          clear S; intro w S
          refine zm E rfl (fun w h => zAe E rfl rfl) ?_; clear E a; intro a E
          refine zm E rfl (fun w h => zAl E rfl rfl) ?_; clear E a; intro a E
          refine zm E rfl (fun w h => by first | exact zAf (q := 3) E rfl rfl rfl | exact zAi (q := 3) E rfl rfl rfl) ?_; clear E a; intro a E
          refine zm E rfl (fun w h => by first | exact zAn E rfl rfl rfl (h.one (by repeat (first | exact mm1 | assumption | apply List.Mem.tail))) rfl | exact zAj E rfl rfl rfl (by assumption)) ?_; clear E a; intro a E
          iterate 2 (refine zm E rfl (fun w h => zAe E rfl rfl) ?_; clear E a; intro a E)
          refine zm E rfl (fun w h => by first | exact zCa E rfl rfl rfl | exact zBa E rfl rfl rfl | exact zAt E rfl rfl rfl) ?_; clear E a; intro a E
          refine zm E rfl (fun w h => zAe E rfl rfl) ?_; clear E a; intro a E
          refine zm E rfl (fun w h => zBw (vs := [_, _, _, _]) E rfl rfl rfl (h.one (by repeat (first | exact mm1 | assumption | apply List.Mem.tail))) rfl rfl) ?_; clear E a; intro a E
          refine zDl E rfl rfl rfl (by decide) rfl Tryz.func13 rfl (by kernel_rfl) rfl (mread_good p R C hC xs 40 hSp.up (by omega) (by omega) hnd Lv2 hLv2 t _ vk CL hCL at_ ha O hL.1 b hfit kind hk12 sm.1 (fun i hce => hKp.found hce) _ (S.hp.sel (zAd (by repeat (first | exact pk1 | apply zAa)) (zAd (by repeat (first | exact pk1 | apply zAa)) (zAd (by repeat (first | exact pk1 | apply zAa)) (zAd (by repeat (first | exact pk1 | apply zAa)) (zAd (by repeat (first | exact pk1 | apply zAa)) (zAk _)))))))) ?_
          rintro v137 w ⟨v20, Cg, R4, C4, Lv4, rfl, hRd, hC4, hLv4, hU4, hf4, hs4, hT⟩; clear E a; intro a E
          have S := S.call (zAd (by repeat (first | exact pk1 | apply zAa)) (zAd (by repeat (first | exact pk1 | apply zAa)) (zAd (by repeat (first | exact pk1 | apply zAa)) (zAd (by repeat (first | exact pk1 | apply zAa)) (zAd (by repeat (first | exact pk1 | apply zAa)) (zAk _)))))) hT; simp only [List.cons_append, List.nil_append] at S; obtain ⟨ad8, c8, rfl⟩ := hRd.slice
          refine zCl E rfl rfl rfl (by decide) (fun w => zAe E rfl rfl) ?_; clear E a; intro a E
          iterate 2 (refine zCl E rfl rfl rfl (by decide) (fun w => zBx E rfl rfl rfl) ?_; clear E a; intro a E)
          iterate 2 (refine zCl E rfl rfl rfl (by decide) (fun w => zAg E rfl rfl) ?_; clear E a; intro a E)
          refine zBs ?_
          refine zAh hK ?_; clear hK; clear K
          refine wp_seq_k ?_; intro K hK
          replace E := E.keep (e' := [(1, _), (2, _), (3, _), (4, _), (12, _), (15, _), (18, _), (20, _), (21, _)]) (zAb rfl (zAb rfl (zAb rfl (zAb rfl (zAb rfl (zAb rfl (zAb rfl (zAb rfl (zAb rfl (zAp))))))))))
          refine zAc ?_
          refine zp E (zAe E rfl rfl) ?_; clear E a; intro a E
          refine zp E (zAl E rfl rfl) ?_; clear E a; intro a E
          refine zp E (by first | exact zAf (q := 1) E rfl rfl rfl | exact zAi (q := 1) E rfl rfl rfl) ?_; clear E a; intro a E
          refine zp E (by first | exact zAn E rfl rfl rfl (S.get (by repeat (first | exact pk1 | apply zAa))) rfl | exact zAj E rfl rfl rfl (by assumption)) ?_; clear E a; intro a E
          refine zp E (zAe E rfl rfl) ?_; clear E a; intro a E
          refine zp E (zBk (i := kk) E rfl rfl rfl rfl rfl rfl (by omega)) ?_; clear E a; intro a E
          refine zp E (zAj E rfl rfl rfl (hCD.rd.cells (S.stab.at (by repeat (first | exact mm1 | assumption | apply List.Mem.tail))) rfl kk _ hcellK)) ?_; clear E a; intro a E
          refine zAr E rfl rfl (by decide) rfl Tryz.func9 rfl (by kernel_rfl) rfl (fail_in p R4 C4 hC4 xs 80 hU4 xs[kk] hmk _ (S.hp.sel (zAd (by repeat (first | exact pk1 | apply zAa)) (zAk _)))) ?_
          rintro v147 w ⟨C5, hC5, hT⟩; clear E a; intro a E
          have S := S.call1 (zAd (by repeat (first | exact pk1 | apply zAa)) (zAk _)) hT; obtain ⟨hU5, hK5⟩ := hU4.fail hmk
          refine wpList_nil ?_
          refine zAh hK ?_; clear hK; clear K
          refine wp_seq_k ?_; intro K hK
          have hl5 : ∀ x ∈ xs, (dkOf (R4.fail (dkOf R4 xs[kk].2)) x.2).failed = true := fun y hy => by
            obtain ⟨j, hj, rfl⟩ := List.mem_iff_getElem.1 hy
            rw [hK5 _ hy]
            by_cases q : j = kk
            · subst q; rw [if_pos rfl]
            · rw [if_neg (xs_ne hnd hkl hj q), hf4 _ hy]; exact hlost j hj (by omega) q
          refine zBo S (.ofL [(0, 0), (1, 0), (2, 0), (3, 0), (4, 0), (5, 0), (6, 0), (7, 0), (8, 0), (9, 3), (10, 2), (11, 2), (12, 2), (13, 2), (14, 2)]) (by kernel_rfl) (by kernel_rfl) ?_
          clear S; intro w S
          refine zm E rfl (fun w h => zAe E rfl rfl) ?_; clear E a; intro a E
          refine zm E rfl (fun w h => zAl E rfl rfl) ?_; clear E a; intro a E
          refine zm E rfl (fun w h => by first | exact zAf (q := 3) E rfl rfl rfl | exact zAi (q := 3) E rfl rfl rfl) ?_; clear E a; intro a E
          refine zm E rfl (fun w h => by first | exact zAn E rfl rfl rfl (h.one (by repeat (first | exact mm1 | assumption | apply List.Mem.tail))) rfl | exact zAj E rfl rfl rfl (by assumption)) ?_; clear E a; intro a E
          iterate 2 (refine zm E rfl (fun w h => zAe E rfl rfl) ?_; clear E a; intro a E)
          refine zm E rfl (fun w h => by first | exact zCa E rfl rfl rfl | exact zBa E rfl rfl rfl | exact zAt E rfl rfl rfl) ?_; clear E a; intro a E
          refine zm E rfl (fun w h => zAe E rfl rfl) ?_; clear E a; intro a E
          refine zm E rfl (fun w h => zBw (vs := [_, _, _, _]) E rfl rfl rfl (h.one (by repeat (first | exact mm1 | assumption | apply List.Mem.tail))) rfl rfl) ?_; clear E a; intro a E
          refine zDl E rfl rfl rfl (by decide) rfl Tryz.func13 rfl (by kernel_rfl) rfl (mread_lost p _ C5 hC5 xs 80 hU5 (by omega) (by omega) hnd Lv4 hLv4 t _ vk CL hCL at_ ha O hL.1 b hfit kind hk12 sm.1 hl5 _ (S.hp.sel (zAd (by repeat (first | exact pk1 | apply zAa)) (zAd (by repeat (first | exact pk1 | apply zAa)) (zAd (by repeat (first | exact pk1 | apply zAa)) (zAd (by repeat (first | exact pk1 | apply zAa)) (zAd (by repeat (first | exact pk1 | apply zAa)) (zAk _)))))))) ?_
          rintro v158 w ⟨v22, Cg2, C6, Lv6, rfl, hT⟩; clear E a; intro a E
          have S := S.call (zAd (by repeat (first | exact pk1 | apply zAa)) (zAd (by repeat (first | exact pk1 | apply zAa)) (zAd (by repeat (first | exact pk1 | apply zAa)) (zAd (by repeat (first | exact pk1 | apply zAa)) (zAd (by repeat (first | exact pk1 | apply zAa)) (zAk _)))))) hT; simp only [List.cons_append, List.nil_append] at S
          refine zCl E rfl rfl rfl (by decide) (fun w => zAe E rfl rfl) ?_; clear E a; intro a E
          iterate 2 (refine zCl E rfl rfl rfl (by decide) (fun w => zBx E rfl rfl rfl) ?_; clear E a; intro a E)
          iterate 2 (refine zCl E rfl rfl rfl (by decide) (fun w => zAg E rfl rfl) ?_; clear E a; intro a E)
          refine zBs ?_
          refine zAh hK ?_; clear hK; clear K
          refine wp_seq_k ?_; intro K hK
          replace E := E.keep (e' := [(2, _), (18, _), (20, _), (21, _), (23, _)]) (zAb rfl (zAb rfl (zAb rfl (zAb rfl (zAb rfl (zAp))))))
          refine zAc ?_
          refine zp E (zAe E rfl rfl) ?_; clear E a; intro a E
          refine zp E (by first | exact zCf E rfl rfl rfl | exact zAu E rfl rfl rfl rfl | exact zBc E rfl rfl rfl rfl | exact zAw E rfl rfl rfl) ?_; clear E a; intro a E
          refine zp E (zAe E rfl rfl) ?_; clear E a; intro a E
          refine zCp E (t := 163) rfl (rfl) (fun hb163 => ?_)
          refine zy E hb163 (zAe E rfl rfl) ?_; clear E a; intro a E
          refine zy E hb163 (by first | exact zCf E rfl rfl rfl | exact zAu E rfl rfl rfl rfl | exact zBc E rfl rfl rfl rfl | exact zAw E rfl rfl rfl) ?_; clear E a; intro a E
          refine zp E (zAm E rfl rfl hb163 rfl) ?_; clear E a; intro a E
          refine zp E (zAe E rfl rfl) ?_; clear E a; intro a E
          refine zCp E (t := 167) rfl (rfl) (fun hb167 => ?_)
          refine zy E hb167 (zAe E rfl rfl) ?_; clear E a; intro a E
          refine zy E hb167 (zDe E rfl rfl rfl rfl rfl (bs := b) hRd (S.stab.at (by repeat (first | exact mm1 | assumption | apply List.Mem.tail)))) ?_; clear E a; intro a E
          refine zy E hb167 (zAe E rfl rfl) ?_; clear E a; intro a E
          refine zy E hb167 (zDe E rfl rfl rfl rfl rfl (bs := b) hb0 (S.stab.at (by repeat (first | exact mm1 | assumption | apply List.Mem.tail)))) ?_; clear E a; intro a E
          refine zy E hb167 (by first | exact zCf E rfl rfl rfl | exact zAu E rfl rfl rfl rfl | exact zBc E rfl rfl rfl rfl | exact zAw E rfl rfl rfl) ?_; clear E a; intro a E
          refine zp E (zAm E rfl rfl hb167 rfl) ?_; clear E a; intro a E
          refine zp E (zAe E rfl rfl) ?_; clear E a; intro a E
          refine zCp E (t := 174) rfl ((by simp)) (fun hb174 => ?_)
          refine zy E hb174 (zAe E rfl rfl) ?_; clear E a; intro a E
          refine zy E hb174 (by first | exact zCf E rfl rfl rfl | exact zAu E rfl rfl rfl rfl | exact zBc E rfl rfl rfl rfl | exact zAw E rfl rfl rfl) ?_; clear E a; intro a E
          refine zp E (zAm E rfl rfl hb174 rfl) ?_; clear E a; intro a E
          refine zp E (zAg E rfl rfl) ?_; clear E a; intro a E
          refine wpList_nil ?_
          refine zAh hK ?_; clear hK; clear K
          refine wp_ret ?_
          refine ret1 E rfl rfl ?_
          exact ⟨_, rfl, rfl, (S.only (Bs := [O]) (zAd (by repeat (first | exact pk1 | apply zAa)) (zAk _))).tr⟩
      · skip
        refine zp E (zAe E rfl rfl) ?_; clear E a; intro a E
        refine zp E (zAl E rfl rfl) ?_; clear E a; intro a E
        refine zp E (by first | exact zAf (q := 3) E rfl rfl rfl | exact zAi (q := 3) E rfl rfl rfl) ?_; clear E a; intro a E
        refine zp E (by first | exact zAn E rfl rfl rfl (S.get (by repeat (first | exact pk1 | apply zAa))) rfl | exact zAj E rfl rfl rfl (by assumption)) ?_; clear E a; intro a E
        iterate 2 (refine zp E (zAe E rfl rfl) ?_; clear E a; intro a E)
        refine zAr E rfl rfl (by decide) rfl Tryz.func8 rfl (by kernel_rfl) rfl (mwrite_no p R C hC xs 0 hU (by omega) (by omega) hnd Lv hLv t _ vk CL hCL at_ ha hnf b (by omega) _ O hb0 (by omega) 1 (by omega) hfit _ (S.hp.sel (zAd (by repeat (first | exact pk1 | apply zAa)) (zAd (by repeat (first | exact pk1 | apply zAa)) (zAd (by repeat (first | exact pk1 | apply zAa)) (zAd (by repeat (first | exact pk1 | apply zAa)) (zAd (by repeat (first | exact pk1 | apply zAa)) (zAk _)))))))) ?_
        rintro v65 w ⟨rfl, hT⟩; clear E a; intro a E
        have S := S.call (zAd (by repeat (first | exact pk1 | apply zAa)) (zAd (by repeat (first | exact pk1 | apply zAa)) (zAd (by repeat (first | exact pk1 | apply zAa)) (zAd (by repeat (first | exact pk1 | apply zAa)) (zAd (by repeat (first | exact pk1 | apply zAa)) (zAk _)))))) hT; simp only [List.cons_append, List.nil_append] at S
        refine zp E (zAg E rfl rfl) ?_; clear E a; intro a E
        refine wpList_nil ?_
        refine zAh hK ?_; clear hK; clear K
        iterate 2 (refine wp_seq_k ?_; intro K hK)
        replace E := E.keep (e' := [(0, _), (1, _), (2, _), (3, _), (4, _), (12, _), (15, _), (16, _), (17, _)]) (zAb rfl (zAb rfl (zAb rfl (zAb rfl (zAb rfl (zAb rfl (zAb rfl (zAb rfl (zAb rfl (zAp))))))))))
        refine zAc ?_
        refine zp E (zAe E rfl rfl) ?_; clear E a; intro a E
        refine zp E (by first | exact zCu E rfl rfl rfl | exact zAz E rfl rfl rfl rfl | exact zBj E rfl rfl rfl rfl | exact zBd E rfl rfl rfl) ?_; clear E a; intro a E
        refine zp E (zAe E rfl rfl) ?_; clear E a; intro a E
        refine zAy E (t := 68) rfl (fun hb68 => ?_) (fun hb68 => ?_)
        · have hb68n := hb68; replace hb68n := Nrm.nrm hb68n
          iterate 2 (refine zn E hb68 ?_; clear E a; intro a E)
          refine zp E (zAm E rfl rfl hb68 rfl) ?_; clear E a; intro a E
          refine wpList_nil ?_
          refine zAh hK ?_; clear hK; clear K
          refine zDa E rfl rfl ?_
          refine wp_seq_k ?_; intro K hK
          refine zAc ?_
          refine zp E (zAe E rfl rfl) ?_; clear E a; intro a E
          refine zp E (by first | exact zCa E rfl rfl rfl | exact zBa E rfl rfl rfl | exact zAt E rfl rfl rfl) ?_; clear E a; intro a E
          refine zp E (zCb E rfl rfl rfl) ?_; clear E a; intro a E
          refine zp E (zAe E rfl rfl) ?_; clear E a; intro a E
          refine zAy E (t := 75) rfl (fun hb75 => ?_) (fun hb75 => ?_)
          · have hb75n := hb75; replace hb75n := Nrm.nrm hb75n
            iterate 3 (refine zn E hb75 ?_; clear E a; intro a E)
            refine zp E (zAm E rfl rfl hb75 rfl) ?_; clear E a; intro a E
            refine zp E (zAe E rfl rfl) ?_; clear E a; intro a E
            iterate 2 (refine zn E rfl ?_; clear E a; intro a E)
            refine zp E (zAm E rfl rfl rfl rfl) ?_; clear E a; intro a E
            refine zp E (zAe E rfl rfl) ?_; clear E a; intro a E
            iterate 2 (refine zn E rfl ?_; clear E a; intro a E)
            refine zp E (zAm E rfl rfl rfl rfl) ?_; clear E a; intro a E
            refine zp E (zAe E rfl rfl) ?_; clear E a; intro a E
            iterate 2 (refine zn E rfl ?_; clear E a; intro a E)
            refine zp E (zAm E rfl rfl rfl rfl) ?_; clear E a; intro a E
            refine zp E (zAe E rfl rfl) ?_; clear E a; intro a E
            iterate 7 (refine zn E rfl ?_; clear E a; intro a E)
            refine zp E (zAm E rfl rfl rfl rfl) ?_; clear E a; intro a E
            refine zp E (zAg E rfl rfl) ?_; clear E a; intro a E
            refine wpList_nil ?_
            refine zAh hK ?_; clear hK; clear K
            refine wp_ret ?_
            refine zBi ?_; clear hK; clear K
            refine ret1 E rfl rfl ?_
            exact ⟨_, rfl, by first | rfl | (unfold zEj at hfit; have hv := zEa (n := b.length) (by first | (simp_all; done) | (simp_all; omega)) (by first | (simp_all; done) | (simp_all; omega)); simp; omega), (S.only (Bs := [O]) (zAd (by repeat (first | exact pk1 | apply zAa)) (zAk _))).tr⟩
          · have hb75n := hb75; replace hb75n := Nrm.nrm hb75n
            refine zy E hb75 (zAe E rfl rfl) ?_; clear E a; intro a E
            refine zy E hb75 (by first | exact zCa E rfl rfl rfl | exact zBa E rfl rfl rfl | exact zAt E rfl rfl rfl) ?_; clear E a; intro a E
            refine zy E hb75 (zDd E rfl rfl rfl) ?_; clear E a; intro a E
            refine zp E (zAq E rfl rfl hb75 rfl) ?_; clear E a; intro a E
            refine zp E (zAe E rfl rfl) ?_; clear E a; intro a E
            refine zAy E (t := 80) rfl (fun hb80 => ?_) (fun hb80 => ?_)
            · have hb80n := hb80; replace hb80n := Nrm.nrm hb80n
              iterate 2 (refine zn E hb80 ?_; clear E a; intro a E)
              refine zp E (zAm E rfl rfl hb80 rfl) ?_; clear E a; intro a E
              refine zp E (zAe E rfl rfl) ?_; clear E a; intro a E
              iterate 2 (refine zn E rfl ?_; clear E a; intro a E)
              refine zp E (zAm E rfl rfl rfl rfl) ?_; clear E a; intro a E
              refine zp E (zAe E rfl rfl) ?_; clear E a; intro a E
              iterate 2 (refine zn E rfl ?_; clear E a; intro a E)
              refine zp E (zAm E rfl rfl rfl rfl) ?_; clear E a; intro a E
              refine zp E (zAe E rfl rfl) ?_; clear E a; intro a E
              iterate 7 (refine zn E rfl ?_; clear E a; intro a E)
              refine zp E (zAm E rfl rfl rfl rfl) ?_; clear E a; intro a E
              refine zp E (zAg E rfl rfl) ?_; clear E a; intro a E
              refine wpList_nil ?_
              refine zAh hK ?_; clear hK; clear K
              refine wp_ret ?_
              refine zBi ?_; clear hK; clear K
              refine ret1 E rfl rfl ?_
              exact ⟨_, rfl, by first | rfl | (unfold zEj at hfit; have hv := zEa (n := b.length) (by first | (simp_all; done) | (simp_all; omega)) (by first | (simp_all; done) | (simp_all; omega)); simp; omega), (S.only (Bs := [O]) (zAd (by repeat (first | exact pk1 | apply zAa)) (zAk _))).tr⟩
            · have hb80n := hb80; replace hb80n := Nrm.nrm hb80n
              refine zy E hb80 (zAe E rfl rfl) ?_; clear E a; intro a E
              refine zy E hb80 (zCb E rfl rfl rfl) ?_; clear E a; intro a E
              refine zp E (zAq E rfl rfl hb80 rfl) ?_; clear E a; intro a E
              refine zp E (zAe E rfl rfl) ?_; clear E a; intro a E
              refine zAy E (t := 84) rfl (fun hb84 => ?_) (fun hb84 => ?_)
              · have hb84n := hb84; replace hb84n := Nrm.nrm hb84n
                iterate 2 (refine zn E hb84 ?_; clear E a; intro a E)
                refine zp E (zAm E rfl rfl hb84 rfl) ?_; clear E a; intro a E
                refine zp E (zAe E rfl rfl) ?_; clear E a; intro a E
                iterate 2 (refine zn E rfl ?_; clear E a; intro a E)
                refine zp E (zAm E rfl rfl rfl rfl) ?_; clear E a; intro a E
                refine zp E (zAe E rfl rfl) ?_; clear E a; intro a E
                iterate 7 (refine zn E rfl ?_; clear E a; intro a E)
                refine zp E (zAm E rfl rfl rfl rfl) ?_; clear E a; intro a E
                refine zp E (zAg E rfl rfl) ?_; clear E a; intro a E
                refine wpList_nil ?_
                refine zAh hK ?_; clear hK; clear K
                refine wp_ret ?_
                refine zBi ?_; clear hK; clear K
                refine ret1 E rfl rfl ?_
                exact ⟨_, rfl, by first | rfl | (unfold zEj at hfit; have hv := zEa (n := b.length) (by first | (simp_all; done) | (simp_all; omega)) (by first | (simp_all; done) | (simp_all; omega)); simp; omega), (S.only (Bs := [O]) (zAd (by repeat (first | exact pk1 | apply zAa)) (zAk _))).tr⟩
              · have hb84n := hb84; replace hb84n := Nrm.nrm hb84n
                refine zy E hb84 (zAe E rfl rfl) ?_; clear E a; intro a E
                refine zy E hb84 (zDd E rfl rfl rfl) ?_; clear E a; intro a E
                refine zp E (zAq E rfl rfl hb84 rfl) ?_; clear E a; intro a E
                refine zp E (zAe E rfl rfl) ?_; clear E a; intro a E
                refine zAy E (t := 88) rfl (fun hb88 => ?_) (fun hb88 => ?_)
                · have hb88n := hb88; replace hb88n := Nrm.nrm hb88n
                  iterate 2 (refine zn E hb88 ?_; clear E a; intro a E)
                  refine zp E (zAm E rfl rfl hb88 rfl) ?_; clear E a; intro a E
                  refine zp E (zAe E rfl rfl) ?_; clear E a; intro a E
                  iterate 7 (refine zn E rfl ?_; clear E a; intro a E)
                  refine zp E (zAm E rfl rfl rfl rfl) ?_; clear E a; intro a E
                  refine zp E (zAg E rfl rfl) ?_; clear E a; intro a E
                  refine wpList_nil ?_
                  refine zAh hK ?_; clear hK; clear K
                  refine wp_ret ?_
                  refine zBi ?_; clear hK; clear K
                  refine ret1 E rfl rfl ?_
                  exact ⟨_, rfl, by first | rfl | (unfold zEj at hfit; have hv := zEa (n := b.length) (by first | (simp_all; done) | (simp_all; omega)) (by first | (simp_all; done) | (simp_all; omega)); simp; omega), (S.only (Bs := [O]) (zAd (by repeat (first | exact pk1 | apply zAa)) (zAk _))).tr⟩
                · have hb88n := hb88; replace hb88n := Nrm.nrm hb88n
                  refine zy E hb88 (zAe E rfl rfl) ?_; clear E a; intro a E
                  refine zy E hb88 (zCb E rfl rfl rfl) ?_; clear E a; intro a E
                  refine zp E (zAq E rfl rfl hb88 rfl) ?_; clear E a; intro a E
                  refine zp E (zAe E rfl rfl) ?_; clear E a; intro a E
                  refine zAy E (t := 92) rfl (fun hb92 => ?_) (fun hb92 => ?_)
                  · have hb92n := hb92; replace hb92n := Nrm.nrm hb92n
                    iterate 7 (refine zn E hb92 ?_; clear E a; intro a E)
                    refine zp E (zAm E rfl rfl hb92 rfl) ?_; clear E a; intro a E
                    refine zp E (zAg E rfl rfl) ?_; clear E a; intro a E
                    refine wpList_nil ?_
                    refine zAh hK ?_; clear hK; clear K
                    refine wp_ret ?_
                    refine zBi ?_; clear hK; clear K
                    refine ret1 E rfl rfl ?_
                    exact ⟨_, rfl, by first | rfl | (unfold zEj at hfit; have hv := zEa (n := b.length) (by first | (simp_all; done) | (simp_all; omega)) (by first | (simp_all; done) | (simp_all; omega)); simp; omega), (S.only (Bs := [O]) (zAd (by repeat (first | exact pk1 | apply zAa)) (zAk _))).tr⟩
                  · have hb92n := hb92; replace hb92n := Nrm.nrm hb92n
                    iterate 2 (refine zy E hb92 (zAe E rfl rfl) ?_; clear E a; intro a E)
                    refine zy E hb92 (by first | exact zCa E rfl rfl rfl | exact zBa E rfl rfl rfl | exact zAt E rfl rfl rfl) ?_; clear E a; intro a E
                    refine zy E hb92 (zBu E rfl rfl rfl (w_in (by omega))) ?_; clear E a; intro a E
                    refine zy E hb92 (zGt E rfl rfl rfl (by first | decide | omega) (show IntKind.i64.wrap (((b.length : Int) + 127).tdiv 128) = ((b.length : Int) + 127) / 128 by rw [Int.tdiv_eq_ediv_of_nonneg (by omega)]; exact w_in (by omega))) ?_; clear E a; intro a E
                    refine zy E hb92 (zDf E rfl rfl rfl (w_in (by omega))) ?_; clear E a; intro a E
                    refine zy E hb92 (zDd E rfl rfl rfl) ?_; clear E a; intro a E
                    refine zp E (zAq E rfl rfl hb92 rfl) ?_; clear E a; intro a E
                    refine zp E (zAg E rfl rfl) ?_; clear E a; intro a E
                    refine wpList_nil ?_
                    refine zAh hK ?_; clear hK; clear K
                    refine wp_ret ?_
                    refine zBi ?_; clear hK; clear K
                    refine ret1 E rfl rfl ?_
                    exact ⟨_, rfl, by first | rfl | (unfold zEj at hfit; have hv := zEa (n := b.length) (by first | (simp_all; done) | (simp_all; omega)) (by first | (simp_all; done) | (simp_all; omega)); simp; omega), (S.only (Bs := [O]) (zAd (by repeat (first | exact pk1 | apply zAa)) (zAk _))).tr⟩
        · have hb68n := hb68; replace hb68n := Nrm.nrm hb68n
          refine zy E hb68 (zAe E rfl rfl) ?_; clear E a; intro a E
          refine zy E hb68 (by first | exact zCu E rfl rfl rfl | exact zAz E rfl rfl rfl rfl | exact zBj E rfl rfl rfl rfl | exact zBd E rfl rfl rfl) ?_; clear E a; intro a E
          refine zp E (zAq E rfl rfl hb68 rfl) ?_; clear E a; intro a E
          refine wpList_nil ?_
          refine zAh hK ?_; clear hK; clear K
          refine zDa E rfl (rfl) ?_
          refine wp_seq_k ?_; intro K hK
          refine zAc ?_
          refine zp E (zAe E rfl rfl) ?_; clear E a; intro a E
          refine zp E (by first | exact zCa E rfl rfl rfl | exact zBa E rfl rfl rfl | exact zAt E rfl rfl rfl) ?_; clear E a; intro a E
          refine zp E (zCb E rfl rfl rfl) ?_; clear E a; intro a E
          refine zp E (zAe E rfl rfl) ?_; clear E a; intro a E
          refine zAy E (t := 75) rfl (fun hb75 => ?_) (fun hb75 => ?_)
          · have hb75n := hb75; replace hb75n := Nrm.nrm hb75n
            iterate 3 (refine zn E hb75 ?_; clear E a; intro a E)
            refine zp E (zAm E rfl rfl hb75 rfl) ?_; clear E a; intro a E
            refine zp E (zAe E rfl rfl) ?_; clear E a; intro a E
            iterate 2 (refine zn E rfl ?_; clear E a; intro a E)
            refine zp E (zAm E rfl rfl rfl rfl) ?_; clear E a; intro a E
            refine zp E (zAe E rfl rfl) ?_; clear E a; intro a E
            iterate 2 (refine zn E rfl ?_; clear E a; intro a E)
            refine zp E (zAm E rfl rfl rfl rfl) ?_; clear E a; intro a E
            refine zp E (zAe E rfl rfl) ?_; clear E a; intro a E
            iterate 2 (refine zn E rfl ?_; clear E a; intro a E)
            refine zp E (zAm E rfl rfl rfl rfl) ?_; clear E a; intro a E
            refine zp E (zAe E rfl rfl) ?_; clear E a; intro a E
            iterate 7 (refine zn E rfl ?_; clear E a; intro a E)
            refine zp E (zAm E rfl rfl rfl rfl) ?_; clear E a; intro a E
            refine zp E (zAg E rfl rfl) ?_; clear E a; intro a E
            refine wpList_nil ?_
            refine zAh hK ?_; clear hK; clear K
            refine wp_ret ?_
            refine zBi ?_; clear hK; clear K
            refine ret1 E rfl rfl ?_
            exact ⟨_, rfl, by first | rfl | (unfold zEj at hfit; have hv := zEa (n := b.length) (by first | (simp_all; done) | (simp_all; omega)) (by first | (simp_all; done) | (simp_all; omega)); simp; omega), (S.only (Bs := [O]) (zAd (by repeat (first | exact pk1 | apply zAa)) (zAk _))).tr⟩
          · have hb75n := hb75; replace hb75n := Nrm.nrm hb75n
            refine zy E hb75 (zAe E rfl rfl) ?_; clear E a; intro a E
            refine zy E hb75 (by first | exact zCa E rfl rfl rfl | exact zBa E rfl rfl rfl | exact zAt E rfl rfl rfl) ?_; clear E a; intro a E
            refine zy E hb75 (zDd E rfl rfl rfl) ?_; clear E a; intro a E
            refine zp E (zAq E rfl rfl hb75 rfl) ?_; clear E a; intro a E
            refine zp E (zAe E rfl rfl) ?_; clear E a; intro a E
            refine zAy E (t := 80) rfl (fun hb80 => ?_) (fun hb80 => ?_)
            · have hb80n := hb80; replace hb80n := Nrm.nrm hb80n
              iterate 2 (refine zn E hb80 ?_; clear E a; intro a E)
              refine zp E (zAm E rfl rfl hb80 rfl) ?_; clear E a; intro a E
              refine zp E (zAe E rfl rfl) ?_; clear E a; intro a E
              iterate 2 (refine zn E rfl ?_; clear E a; intro a E)
              refine zp E (zAm E rfl rfl rfl rfl) ?_; clear E a; intro a E
              refine zp E (zAe E rfl rfl) ?_; clear E a; intro a E
              iterate 2 (refine zn E rfl ?_; clear E a; intro a E)
              refine zp E (zAm E rfl rfl rfl rfl) ?_; clear E a; intro a E
              refine zp E (zAe E rfl rfl) ?_; clear E a; intro a E
              iterate 7 (refine zn E rfl ?_; clear E a; intro a E)
              refine zp E (zAm E rfl rfl rfl rfl) ?_; clear E a; intro a E
              refine zp E (zAg E rfl rfl) ?_; clear E a; intro a E
              refine wpList_nil ?_
              refine zAh hK ?_; clear hK; clear K
              refine wp_ret ?_
              refine zBi ?_; clear hK; clear K
              refine ret1 E rfl rfl ?_
              exact ⟨_, rfl, by first | rfl | (unfold zEj at hfit; have hv := zEa (n := b.length) (by first | (simp_all; done) | (simp_all; omega)) (by first | (simp_all; done) | (simp_all; omega)); simp; omega), (S.only (Bs := [O]) (zAd (by repeat (first | exact pk1 | apply zAa)) (zAk _))).tr⟩
            · have hb80n := hb80; replace hb80n := Nrm.nrm hb80n
              refine zy E hb80 (zAe E rfl rfl) ?_; clear E a; intro a E
              refine zy E hb80 (zCb E rfl rfl rfl) ?_; clear E a; intro a E
              refine zp E (zAq E rfl rfl hb80 rfl) ?_; clear E a; intro a E
              refine zp E (zAe E rfl rfl) ?_; clear E a; intro a E
              refine zAy E (t := 84) rfl (fun hb84 => ?_) (fun hb84 => ?_)
              · have hb84n := hb84; replace hb84n := Nrm.nrm hb84n
                iterate 2 (refine zn E hb84 ?_; clear E a; intro a E)
                refine zp E (zAm E rfl rfl hb84 rfl) ?_; clear E a; intro a E
                refine zp E (zAe E rfl rfl) ?_; clear E a; intro a E
                iterate 2 (refine zn E rfl ?_; clear E a; intro a E)
                refine zp E (zAm E rfl rfl rfl rfl) ?_; clear E a; intro a E
                refine zp E (zAe E rfl rfl) ?_; clear E a; intro a E
                iterate 7 (refine zn E rfl ?_; clear E a; intro a E)
                refine zp E (zAm E rfl rfl rfl rfl) ?_; clear E a; intro a E
                refine zp E (zAg E rfl rfl) ?_; clear E a; intro a E
                refine wpList_nil ?_
                refine zAh hK ?_; clear hK; clear K
                refine wp_ret ?_
                refine zBi ?_; clear hK; clear K
                refine ret1 E rfl rfl ?_
                exact ⟨_, rfl, by first | rfl | (unfold zEj at hfit; have hv := zEa (n := b.length) (by first | (simp_all; done) | (simp_all; omega)) (by first | (simp_all; done) | (simp_all; omega)); simp; omega), (S.only (Bs := [O]) (zAd (by repeat (first | exact pk1 | apply zAa)) (zAk _))).tr⟩
              · have hb84n := hb84; replace hb84n := Nrm.nrm hb84n
                refine zy E hb84 (zAe E rfl rfl) ?_; clear E a; intro a E
                refine zy E hb84 (zDd E rfl rfl rfl) ?_; clear E a; intro a E
                refine zp E (zAq E rfl rfl hb84 rfl) ?_; clear E a; intro a E
                refine zp E (zAe E rfl rfl) ?_; clear E a; intro a E
                refine zAy E (t := 88) rfl (fun hb88 => ?_) (fun hb88 => ?_)
                · have hb88n := hb88; replace hb88n := Nrm.nrm hb88n
                  iterate 2 (refine zn E hb88 ?_; clear E a; intro a E)
                  refine zp E (zAm E rfl rfl hb88 rfl) ?_; clear E a; intro a E
                  refine zp E (zAe E rfl rfl) ?_; clear E a; intro a E
                  iterate 7 (refine zn E rfl ?_; clear E a; intro a E)
                  refine zp E (zAm E rfl rfl rfl rfl) ?_; clear E a; intro a E
                  refine zp E (zAg E rfl rfl) ?_; clear E a; intro a E
                  refine wpList_nil ?_
                  refine zAh hK ?_; clear hK; clear K
                  refine wp_ret ?_
                  refine zBi ?_; clear hK; clear K
                  refine ret1 E rfl rfl ?_
                  exact ⟨_, rfl, by first | rfl | (unfold zEj at hfit; have hv := zEa (n := b.length) (by first | (simp_all; done) | (simp_all; omega)) (by first | (simp_all; done) | (simp_all; omega)); simp; omega), (S.only (Bs := [O]) (zAd (by repeat (first | exact pk1 | apply zAa)) (zAk _))).tr⟩
                · have hb88n := hb88; replace hb88n := Nrm.nrm hb88n
                  refine zy E hb88 (zAe E rfl rfl) ?_; clear E a; intro a E
                  refine zy E hb88 (zCb E rfl rfl rfl) ?_; clear E a; intro a E
                  refine zp E (zAq E rfl rfl hb88 rfl) ?_; clear E a; intro a E
                  refine zp E (zAe E rfl rfl) ?_; clear E a; intro a E
                  refine zAy E (t := 92) rfl (fun hb92 => ?_) (fun hb92 => ?_)
                  · have hb92n := hb92; replace hb92n := Nrm.nrm hb92n
                    iterate 7 (refine zn E hb92 ?_; clear E a; intro a E)
                    refine zp E (zAm E rfl rfl hb92 rfl) ?_; clear E a; intro a E
                    refine zp E (zAg E rfl rfl) ?_; clear E a; intro a E
                    refine wpList_nil ?_
                    refine zAh hK ?_; clear hK; clear K
                    refine wp_ret ?_
                    refine zBi ?_; clear hK; clear K
                    refine ret1 E rfl rfl ?_
                    exact ⟨_, rfl, by first | rfl | (unfold zEj at hfit; have hv := zEa (n := b.length) (by first | (simp_all; done) | (simp_all; omega)) (by first | (simp_all; done) | (simp_all; omega)); simp; omega), (S.only (Bs := [O]) (zAd (by repeat (first | exact pk1 | apply zAa)) (zAk _))).tr⟩
                  · have hb92n := hb92; replace hb92n := Nrm.nrm hb92n
                    iterate 2 (refine zy E hb92 (zAe E rfl rfl) ?_; clear E a; intro a E)
                    refine zy E hb92 (by first | exact zCa E rfl rfl rfl | exact zBa E rfl rfl rfl | exact zAt E rfl rfl rfl) ?_; clear E a; intro a E
                    refine zy E hb92 (zBu E rfl rfl rfl (w_in (by omega))) ?_; clear E a; intro a E
                    refine zy E hb92 (zGt E rfl rfl rfl (by first | decide | omega) (show IntKind.i64.wrap (((b.length : Int) + 127).tdiv 128) = ((b.length : Int) + 127) / 128 by rw [Int.tdiv_eq_ediv_of_nonneg (by omega)]; exact w_in (by omega))) ?_; clear E a; intro a E
                    refine zy E hb92 (zDf E rfl rfl rfl (w_in (by omega))) ?_; clear E a; intro a E
                    refine zy E hb92 (zDd E rfl rfl rfl) ?_; clear E a; intro a E
                    refine zp E (zAq E rfl rfl hb92 rfl) ?_; clear E a; intro a E
                    refine zp E (zAg E rfl rfl) ?_; clear E a; intro a E
                    refine wpList_nil ?_
                    refine zAh hK ?_; clear hK; clear K
                    refine wp_ret ?_
                    refine zBi ?_; clear hK; clear K
                    refine ret1 E rfl rfl ?_
                    exact ⟨_, rfl, by first | rfl | (unfold zEj at hfit; have hv := zEa (n := b.length) (by first | (simp_all; done) | (simp_all; omega)) (by first | (simp_all; done) | (simp_all; omega)); simp; omega), (S.only (Bs := [O]) (zAd (by repeat (first | exact pk1 | apply zAa)) (zAk _))).tr⟩
      · skip
        refine zp E (zAe E rfl rfl) ?_; clear E a; intro a E
        refine zp E (zAl E rfl rfl) ?_; clear E a; intro a E
        refine zp E (by first | exact zAf (q := 3) E rfl rfl rfl | exact zAi (q := 3) E rfl rfl rfl) ?_; clear E a; intro a E
        refine zp E (by first | exact zAn E rfl rfl rfl (S.get (by repeat (first | exact pk1 | apply zAa))) rfl | exact zAj E rfl rfl rfl (by assumption)) ?_; clear E a; intro a E
        iterate 2 (refine zp E (zAe E rfl rfl) ?_; clear E a; intro a E)
        refine zAr E rfl rfl (by decide) rfl Tryz.func8 rfl (by kernel_rfl) rfl (zIs p R C hC xs 0 hU (by omega) (by omega) hnd Lv hLv t _ vk CL hCL at_ ha hnf b _ O hb0 (by omega) 1 (by omega) hfit _ (S.hp.sel (zAd (by repeat (first | exact pk1 | apply zAa)) (zAd (by repeat (first | exact pk1 | apply zAa)) (zAd (by repeat (first | exact pk1 | apply zAa)) (zAd (by repeat (first | exact pk1 | apply zAa)) (zAd (by repeat (first | exact pk1 | apply zAa)) (zAk _)))))))) ?_
        rintro v65 w ⟨rfl, R1, C1, Lv1, hC1, hLv1, hU1, hW1, hT⟩; clear E a; intro a E
        have S := S.call (zAd (by repeat (first | exact pk1 | apply zAa)) (zAd (by repeat (first | exact pk1 | apply zAa)) (zAd (by repeat (first | exact pk1 | apply zAa)) (zAd (by repeat (first | exact pk1 | apply zAa)) (zAd (by repeat (first | exact pk1 | apply zAa)) (zAk _)))))) hT; simp only [List.cons_append, List.nil_append] at S
        refine zp E (zAg E rfl rfl) ?_; clear E a; intro a E
        refine wpList_nil ?_
        refine zAh hK ?_; clear hK; clear K
        iterate 2 (refine wp_seq_k ?_; intro K hK)
        replace E := E.keep (e' := [(0, _), (1, _), (2, _), (3, _), (4, _), (12, _), (15, _), (16, _), (17, _)]) (zAb rfl (zAb rfl (zAb rfl (zAb rfl (zAb rfl (zAb rfl (zAb rfl (zAb rfl (zAb rfl (zAp))))))))))
        refine zAc ?_
        refine zp E (zAe E rfl rfl) ?_; clear E a; intro a E
        refine zp E (by first | exact zCu E rfl rfl rfl | exact zAz E rfl rfl rfl rfl | exact zBj E rfl rfl rfl rfl | exact zBd E rfl rfl rfl) ?_; clear E a; intro a E
        refine zp E (zAe E rfl rfl) ?_; clear E a; intro a E
        refine zCp E (t := 68) rfl ((by have := mt hse.1 hk12; simpa using this)) (fun hb68 => ?_)
        iterate 2 (refine zn E hb68 ?_; clear E a; intro a E)
        refine zp E (zAm E rfl rfl hb68 rfl) ?_; clear E a; intro a E
        refine wpList_nil ?_
        refine zAh hK ?_; clear hK; clear K
        refine zDa E rfl rfl ?_
        refine wp_seq_k ?_; intro K hK
        refine zAc ?_
        refine zp E (zAe E rfl rfl) ?_; clear E a; intro a E
        refine zp E (by first | exact zCa E rfl rfl rfl | exact zBa E rfl rfl rfl | exact zAt E rfl rfl rfl) ?_; clear E a; intro a E
        refine zp E (zCb E rfl rfl rfl) ?_; clear E a; intro a E
        refine zp E (zAe E rfl rfl) ?_; clear E a; intro a E
        refine zAy E (t := 75) rfl (fun hb75 => ?_) (fun hb75 => ?_)
        · have hb75n := hb75; replace hb75n := Nrm.nrm hb75n
          iterate 3 (refine zn E hb75 ?_; clear E a; intro a E)
          refine zp E (zAm E rfl rfl hb75 rfl) ?_; clear E a; intro a E
          refine zp E (zAe E rfl rfl) ?_; clear E a; intro a E
          iterate 2 (refine zn E rfl ?_; clear E a; intro a E)
          refine zp E (zAm E rfl rfl rfl rfl) ?_; clear E a; intro a E
          refine zp E (zAe E rfl rfl) ?_; clear E a; intro a E
          iterate 2 (refine zn E rfl ?_; clear E a; intro a E)
          refine zp E (zAm E rfl rfl rfl rfl) ?_; clear E a; intro a E
          refine zp E (zAe E rfl rfl) ?_; clear E a; intro a E
          iterate 2 (refine zn E rfl ?_; clear E a; intro a E)
          refine zp E (zAm E rfl rfl rfl rfl) ?_; clear E a; intro a E
          refine zp E (zAe E rfl rfl) ?_; clear E a; intro a E
          iterate 7 (refine zn E rfl ?_; clear E a; intro a E)
          refine zp E (zAm E rfl rfl rfl rfl) ?_; clear E a; intro a E
          refine zp E (zAg E rfl rfl) ?_; clear E a; intro a E
          refine wpList_nil ?_
          refine zAh hK ?_; clear hK; clear K
          refine wp_ret ?_
          refine zBi ?_; clear hK; clear K
          refine ret1 E rfl rfl ?_
          exact ⟨_, rfl, by first | rfl | (exfalso; simp_all; omega), (S.only (Bs := [O]) (zAd (by repeat (first | exact pk1 | apply zAa)) (zAk _))).tr⟩
        · have hb75n := hb75; replace hb75n := Nrm.nrm hb75n
          refine zy E hb75 (zAe E rfl rfl) ?_; clear E a; intro a E
          refine zy E hb75 (by first | exact zCa E rfl rfl rfl | exact zBa E rfl rfl rfl | exact zAt E rfl rfl rfl) ?_; clear E a; intro a E
          refine zy E hb75 (zDd E rfl rfl rfl) ?_; clear E a; intro a E
          refine zp E (zAq E rfl rfl hb75 rfl) ?_; clear E a; intro a E
          refine zp E (zAe E rfl rfl) ?_; clear E a; intro a E
          refine zAy E (t := 80) rfl (fun hb80 => ?_) (fun hb80 => ?_)
          · have hb80n := hb80; replace hb80n := Nrm.nrm hb80n
            iterate 2 (refine zn E hb80 ?_; clear E a; intro a E)
            refine zp E (zAm E rfl rfl hb80 rfl) ?_; clear E a; intro a E
            refine zp E (zAe E rfl rfl) ?_; clear E a; intro a E
            iterate 2 (refine zn E rfl ?_; clear E a; intro a E)
            refine zp E (zAm E rfl rfl rfl rfl) ?_; clear E a; intro a E
            refine zp E (zAe E rfl rfl) ?_; clear E a; intro a E
            iterate 2 (refine zn E rfl ?_; clear E a; intro a E)
            refine zp E (zAm E rfl rfl rfl rfl) ?_; clear E a; intro a E
            refine zp E (zAe E rfl rfl) ?_; clear E a; intro a E
            iterate 7 (refine zn E rfl ?_; clear E a; intro a E)
            refine zp E (zAm E rfl rfl rfl rfl) ?_; clear E a; intro a E
            refine zp E (zAg E rfl rfl) ?_; clear E a; intro a E
            refine wpList_nil ?_
            refine zAh hK ?_; clear hK; clear K
            refine wp_ret ?_
            refine zBi ?_; clear hK; clear K
            refine ret1 E rfl rfl ?_
            exact ⟨_, rfl, by first | rfl | (exfalso; simp_all; omega), (S.only (Bs := [O]) (zAd (by repeat (first | exact pk1 | apply zAa)) (zAk _))).tr⟩
          · have hb80n := hb80; replace hb80n := Nrm.nrm hb80n
            refine zy E hb80 (zAe E rfl rfl) ?_; clear E a; intro a E
            refine zy E hb80 (zCb E rfl rfl rfl) ?_; clear E a; intro a E
            refine zp E (zAq E rfl rfl hb80 rfl) ?_; clear E a; intro a E
            refine zp E (zAe E rfl rfl) ?_; clear E a; intro a E
            refine zAy E (t := 84) rfl (fun hb84 => ?_) (fun hb84 => ?_)
            · have hb84n := hb84; replace hb84n := Nrm.nrm hb84n
              iterate 2 (refine zn E hb84 ?_; clear E a; intro a E)
              refine zp E (zAm E rfl rfl hb84 rfl) ?_; clear E a; intro a E
              refine zp E (zAe E rfl rfl) ?_; clear E a; intro a E
              iterate 2 (refine zn E rfl ?_; clear E a; intro a E)
              refine zp E (zAm E rfl rfl rfl rfl) ?_; clear E a; intro a E
              refine zp E (zAe E rfl rfl) ?_; clear E a; intro a E
              iterate 7 (refine zn E rfl ?_; clear E a; intro a E)
              refine zp E (zAm E rfl rfl rfl rfl) ?_; clear E a; intro a E
              refine zp E (zAg E rfl rfl) ?_; clear E a; intro a E
              refine wpList_nil ?_
              refine zAh hK ?_; clear hK; clear K
              refine wp_ret ?_
              refine zBi ?_; clear hK; clear K
              refine ret1 E rfl rfl ?_
              exact ⟨_, rfl, by first | rfl | (exfalso; simp_all; omega), (S.only (Bs := [O]) (zAd (by repeat (first | exact pk1 | apply zAa)) (zAk _))).tr⟩
            · have hb84n := hb84; replace hb84n := Nrm.nrm hb84n
              refine zy E hb84 (zAe E rfl rfl) ?_; clear E a; intro a E
              refine zy E hb84 (zDd E rfl rfl rfl) ?_; clear E a; intro a E
              refine zp E (zAq E rfl rfl hb84 rfl) ?_; clear E a; intro a E
              refine zp E (zAe E rfl rfl) ?_; clear E a; intro a E
              refine zAy E (t := 88) rfl (fun hb88 => ?_) (fun hb88 => ?_)
              · have hb88n := hb88; replace hb88n := Nrm.nrm hb88n
                iterate 2 (refine zn E hb88 ?_; clear E a; intro a E)
                refine zp E (zAm E rfl rfl hb88 rfl) ?_; clear E a; intro a E
                refine zp E (zAe E rfl rfl) ?_; clear E a; intro a E
                iterate 7 (refine zn E rfl ?_; clear E a; intro a E)
                refine zp E (zAm E rfl rfl rfl rfl) ?_; clear E a; intro a E
                refine zp E (zAg E rfl rfl) ?_; clear E a; intro a E
                refine wpList_nil ?_
                refine zAh hK ?_; clear hK; clear K
                refine wp_ret ?_
                refine zBi ?_; clear hK; clear K
                refine ret1 E rfl rfl ?_
                exact ⟨_, rfl, by first | rfl | (exfalso; simp_all; omega), (S.only (Bs := [O]) (zAd (by repeat (first | exact pk1 | apply zAa)) (zAk _))).tr⟩
              · have hb88n := hb88; replace hb88n := Nrm.nrm hb88n
                refine zy E hb88 (zAe E rfl rfl) ?_; clear E a; intro a E
                refine zy E hb88 (zCb E rfl rfl rfl) ?_; clear E a; intro a E
                refine zp E (zAq E rfl rfl hb88 rfl) ?_; clear E a; intro a E
                refine zp E (zAe E rfl rfl) ?_; clear E a; intro a E
                refine zAy E (t := 92) rfl (fun hb92 => ?_) (fun hb92 => ?_)
                · have hb92n := hb92; replace hb92n := Nrm.nrm hb92n
                  iterate 7 (refine zn E hb92 ?_; clear E a; intro a E)
                  refine zp E (zAm E rfl rfl hb92 rfl) ?_; clear E a; intro a E
                  refine zp E (zAg E rfl rfl) ?_; clear E a; intro a E
                  refine wpList_nil ?_
                  refine zAh hK ?_; clear hK; clear K
                  refine wp_ret ?_
                  refine zBi ?_; clear hK; clear K
                  refine ret1 E rfl rfl ?_
                  exact ⟨_, rfl, by first | rfl | (exfalso; simp_all; omega), (S.only (Bs := [O]) (zAd (by repeat (first | exact pk1 | apply zAa)) (zAk _))).tr⟩
                · have hb92n := hb92; replace hb92n := Nrm.nrm hb92n
                  iterate 2 (refine zy E hb92 (zAe E rfl rfl) ?_; clear E a; intro a E)
                  refine zy E hb92 (by first | exact zCa E rfl rfl rfl | exact zBa E rfl rfl rfl | exact zAt E rfl rfl rfl) ?_; clear E a; intro a E
                  refine zy E hb92 (zBu E rfl rfl rfl (w_in (by omega))) ?_; clear E a; intro a E
                  refine zy E hb92 (zGt E rfl rfl rfl (by first | decide | omega) (show IntKind.i64.wrap (((b.length : Int) + 127).tdiv 128) = ((b.length : Int) + 127) / 128 by rw [Int.tdiv_eq_ediv_of_nonneg (by omega)]; exact w_in (by omega))) ?_; clear E a; intro a E
                  refine zy E hb92 (zDf E rfl rfl rfl (w_in (by omega))) ?_; clear E a; intro a E
                  refine zy E hb92 (zDd E rfl rfl rfl) ?_; clear E a; intro a E
                  refine zp E (zAq E rfl rfl hb92 rfl) ?_; clear E a; intro a E
                  refine zp E (zAg E rfl rfl) ?_; clear E a; intro a E
                  refine wpList_nil ?_
                  refine zAh hK ?_; clear hK; clear K
                  refine wp_ret ?_
                  refine zBi ?_; clear hK; clear K
                  refine ret1 E rfl rfl ?_
                  exact ⟨_, rfl, by first | rfl | (exfalso; simp_all; omega), (S.only (Bs := [O]) (zAd (by repeat (first | exact pk1 | apply zAa)) (zAk _))).tr⟩
end Go.Proofs.YtidhehcjafoneaaGreatDoor
namespace Go.Proofs.YtidhehcjafoneaaGreatDoor
open Go.Sl
set_option maxRecDepth 10000
abbrev I64 (z : Int) : Prop := -9223372036854775808 ≤ z ∧ z ≤ 9223372036854775807
theorem alone_row (W : World) (hL : Lay3 (old W)) (n : Int) (_ : I64 n) (at_ : Int) (ha : I64 at_) (v2 : Value) (b : List UInt8) (hO2 : Rd (old W) 1 v2 b.length (byt b)) (hl2 : b.length ≤ 140737488352000) (kind : Int) (_ : I64 kind) (k : Int) (_ : I64 k) (w0 : World) (H : Hp w0 [old W]) :
    Ret Tryz.prog 4 #[.int .i64 n, .int .i64 at_, v2, .int .i64 kind, .int .i64 k] w0 fun u w' => u = .bool true ∧ Trs w0 w' [old W] [old W] :=
  alone_walk (old W) hL n at_ ha v2 b hO2 hl2 kind k w0 H
end Go.Proofs.YtidhehcjafoneaaGreatDoor
