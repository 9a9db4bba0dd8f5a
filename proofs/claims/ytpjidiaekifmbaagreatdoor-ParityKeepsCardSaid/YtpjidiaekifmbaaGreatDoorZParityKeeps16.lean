/-
  Texts put together (16).
-/
import Derived.Test.YtpjidiaekifmbaaGreatDoorZParityKeeps15
namespace Go.Sl
theorem enter8 {P : Program} {f : FuncId} {fn : Func} {c : Code} {w : World} {R : Ending → World → Prop} (n : Nat) {x0 x1 x2 x3 x4 x5 x6 x7 : Value} (hf : P.funcs[f]? = some fn) (hb : fn.body = some c) (hn : fn.ntmps = n) (hs : 8 ≤ n)
  (h : ∀ a, Fr a n [(0, x0), (1, x1), (2, x2), (3, x3), (4, x4), (5, x5), (6, x6), (7, x7)] → c.wp P (bodyPost P fn R) a w) : Calls P f #[x0, x1, x2, x3, x4, x5, x6, x7] w R :=
 zEv n _ _ hf hb hn hs (zIa _ _ (by simp)) h
end Go.Sl
namespace Go.Proofs.YtpjidiaekifmbaaGreatDoor
open Go.Sl
set_option maxRecDepth 10000
theorem fitP_is {w : Nat} {b : List UInt8} {at_ : Int} (hw : 3 ≤ w ∧ w ≤ 5) (h : zHh w 32 at_ b.length) : (1 ≤ b.length ∧ b.length ≤ 1024) ∧ 0 ≤ at_ ∧ at_ + (layP w b).length ≤ w * 32 := by
 obtain ⟨h1, h2, h3, h4⟩ := h
 have hm := (zHp hw b.length).2.2.1 h1
 have hb : 1 ≤ b.length ∧ b.length ≤ 1024 := by
  unfold zEi at hm
  split at hm <;> omega
 refine ⟨hb, h2, ?_⟩
 rw [← (zFz hw hb).1]; omega
theorem zEd {w : Nat} {b : List UInt8} {at_ : Int} (hw : 3 ≤ w ∧ w ≤ 5) (h : ¬ zHh w 32 at_ b.length) (h1 : 1 ≤ b.length) (h2 : b.length ≤ 1024) (h3 : 0 ≤ at_) : (w : Int) * 32 - zEc w b.length < at_ := by
 have hm : 0 < zEi b.length := by unfold zEi; rw [if_neg oZ]; omega
 have hn := (zHp hw b.length).2.2.2 hm
 unfold zHh at h
 omega
theorem needP_le {w : Nat} (hw : 3 ≤ w ∧ w ≤ 5) (n : Int) : 0 ≤ zEc w n ∧ zEc w n ≤ 12 := ⟨(zHp hw n).1, (zHp hw n).2.1⟩
set_option maxHeartbeats 4000000 in
theorem keeps7_walk (O : zAk) (hL : Lay3 O) (n bd nx at_ : Int) (ha : -9223372036854775808 ≤ at_ ∧ at_ ≤ 9223372036854775807) (v : Value) (b : List UInt8) (hb0 : Rd O 1 v b.length (byt b)) (hbl : b.length ≤ 140737488352000) (kind : Int)
  (vm : Value) (mask : List UInt8) (hm : Rd O 1 vm mask.length (byt mask)) (dead : Bool) (w0 : World) (H : Hp w0 [O]) :
  Ret Tryz.prog 3 #[.int .i64 n, .int .i64 bd, .int .i64 nx, .int .i64 at_, v, .int .i64 kind, vm, .bool dead] w0 fun u w' => u = .bool true ∧ Trs w0 w' [O] [O] := by
 have S := St.begin H
 obtain ⟨adb, cb, rfl⟩ := hb0.slice
 obtain ⟨adm, cm, rfl⟩ := hm.slice
 refine enter8 202 Tryz.func3 rfl rfl dZ ?_; intro a E
 refine wp_seq_k ?_; intro K hK
 refine zAa ?_
 refine zd E ?_; clear E a; intro a E
 refine wpList_nil ?_
 refine zAb hK ?_; clear hK K
 refine wp_seq_k ?_; intro K hK
 refine zAa ?_
 refine zAh E rfl rfl dZ rfl Tryz.func5 rfl yZ rfl (awake7_ret O hL.1 _ S.hp) ?_
 rintro v31 w ⟨rfl, hT⟩; clear E a; intro a E
 have S := S.all hT
 refine zd E ?_; clear E a; intro a E
 refine wpList_nil ?_
 refine zAb hK ?_; clear hK K
 iterate 2 (refine wp_seq_k ?_; intro K hK)
 refine zDm (fun (a : Act) (w' : World) => ∃ bt : Bool, (bt = true ↔ ¬ (3 ≤ n ∧ n ≤ 5 ∧ 0 ≤ bd ∧ bd < n ∧ 0 ≤ nx ∧ nx < n)) ∧ St w0 [O] w' [O] ∧ Fr a 202 [(0, .int .i64 n), (1, .int .i64 bd), (2, .int .i64 nx), (3, .int .i64 at_), (4, .slice adb b.length cb), (5, .int .i64 kind), (6, .slice adm mask.length cm), (7, .bool dead), (17, .bool true), (55, .bool bt)]) ?_ ?_
 ·skip
  refine zAa ?_
  iterate 3 (refine zd E ?_; clear E a; intro a E)
  refine zAo E (t := 34) rfl (fun hb34 => ?_) (fun hb34 => ?_)
  ·have hb34n := hb34; replace hb34n := Nrm.nrm hb34n
   iterate 2 (refine zn E hb34 ?_; clear E a; intro a E)
   refine zp E (zAf E rfl rfl hb34 rfl) ?_; clear E a; intro a E
   refine zd E ?_; clear E a; intro a E
   iterate 2 (refine zn E rfl ?_; clear E a; intro a E)
   refine zp E (zAf E rfl rfl rfl rfl) ?_; clear E a; intro a E
   refine zd E ?_; clear E a; intro a E
   iterate 3 (refine zn E rfl ?_; clear E a; intro a E)
   refine zp E (zAf E rfl rfl rfl rfl) ?_; clear E a; intro a E
   refine zd E ?_; clear E a; intro a E
   iterate 2 (refine zn E rfl ?_; clear E a; intro a E)
   refine zp E (zAf E rfl rfl rfl rfl) ?_; clear E a; intro a E
   refine zd E ?_; clear E a; intro a E
   iterate 3 (refine zn E rfl ?_; clear E a; intro a E)
   refine zp E (zAf E rfl rfl rfl rfl) ?_; clear E a; intro a E
   refine wpList_nil ?_
   refine zAy ?_
   exact ⟨_, by first | (simp; omega) | (simp only [decide_eq_true_eq]; omega), S, E.keep (kE10 rfl rfl rfl rfl rfl rfl rfl rfl rfl rfl)⟩
  ·have hb34n := hb34; replace hb34n := Nrm.nrm hb34n
   iterate 2 (refine zyd E hb34 ?_; clear E a; intro a E)
   refine zp E (zAi E rfl rfl hb34 rfl) ?_; clear E a; intro a E
   refine zd E ?_; clear E a; intro a E
   refine zAo E (t := 38) rfl (fun hb38 => ?_) (fun hb38 => ?_)
   ·have hb38n := hb38; replace hb38n := Nrm.nrm hb38n
    iterate 2 (refine zn E hb38 ?_; clear E a; intro a E)
    refine zp E (zAf E rfl rfl hb38 rfl) ?_; clear E a; intro a E
    refine zd E ?_; clear E a; intro a E
    iterate 3 (refine zn E rfl ?_; clear E a; intro a E)
    refine zp E (zAf E rfl rfl rfl rfl) ?_; clear E a; intro a E
    refine zd E ?_; clear E a; intro a E
    iterate 2 (refine zn E rfl ?_; clear E a; intro a E)
    refine zp E (zAf E rfl rfl rfl rfl) ?_; clear E a; intro a E
    refine zd E ?_; clear E a; intro a E
    iterate 3 (refine zn E rfl ?_; clear E a; intro a E)
    refine zp E (zAf E rfl rfl rfl rfl) ?_; clear E a; intro a E
    refine wpList_nil ?_
    refine zAy ?_
    exact ⟨_, by first | (simp; omega) | (simp only [decide_eq_true_eq]; omega), S, E.keep (kE10 rfl rfl rfl rfl rfl rfl rfl rfl rfl rfl)⟩
   ·have hb38n := hb38; replace hb38n := Nrm.nrm hb38n
    iterate 2 (refine zyd E hb38 ?_; clear E a; intro a E)
    refine zp E (zAi E rfl rfl hb38 rfl) ?_; clear E a; intro a E
    refine zd E ?_; clear E a; intro a E
    refine zAo E (t := 42) rfl (fun hb42 => ?_) (fun hb42 => ?_)
    ·have hb42n := hb42; replace hb42n := Nrm.nrm hb42n
     iterate 3 (refine zn E hb42 ?_; clear E a; intro a E)
     refine zp E (zAf E rfl rfl hb42 rfl) ?_; clear E a; intro a E
     refine zd E ?_; clear E a; intro a E
     iterate 2 (refine zn E rfl ?_; clear E a; intro a E)
     refine zp E (zAf E rfl rfl rfl rfl) ?_; clear E a; intro a E
     refine zd E ?_; clear E a; intro a E
     iterate 3 (refine zn E rfl ?_; clear E a; intro a E)
     refine zp E (zAf E rfl rfl rfl rfl) ?_; clear E a; intro a E
     refine wpList_nil ?_
     refine zAy ?_
     exact ⟨_, by first | (simp; omega) | (simp only [decide_eq_true_eq]; omega), S, E.keep (kE10 rfl rfl rfl rfl rfl rfl rfl rfl rfl rfl)⟩
    ·have hb42n := hb42; replace hb42n := Nrm.nrm hb42n
     iterate 3 (refine zyd E hb42 ?_; clear E a; intro a E)
     refine zp E (zAi E rfl rfl hb42 rfl) ?_; clear E a; intro a E
     refine zd E ?_; clear E a; intro a E
     refine zAo E (t := 47) rfl (fun hb47 => ?_) (fun hb47 => ?_)
     ·have hb47n := hb47; replace hb47n := Nrm.nrm hb47n
      iterate 2 (refine zn E hb47 ?_; clear E a; intro a E)
      refine zp E (zAf E rfl rfl hb47 rfl) ?_; clear E a; intro a E
      refine zd E ?_; clear E a; intro a E
      iterate 3 (refine zn E rfl ?_; clear E a; intro a E)
      refine zp E (zAf E rfl rfl rfl rfl) ?_; clear E a; intro a E
      refine wpList_nil ?_
      refine zAy ?_
      exact ⟨_, by first | (simp; omega) | (simp only [decide_eq_true_eq]; omega), S, E.keep (kE10 rfl rfl rfl rfl rfl rfl rfl rfl rfl rfl)⟩
     ·have hb47n := hb47; replace hb47n := Nrm.nrm hb47n
      iterate 2 (refine zyd E hb47 ?_; clear E a; intro a E)
      refine zp E (zAi E rfl rfl hb47 rfl) ?_; clear E a; intro a E
      refine zd E ?_; clear E a; intro a E
      refine zAo E (t := 51) rfl (fun hb51 => ?_) (fun hb51 => ?_)
      ·have hb51n := hb51; replace hb51n := Nrm.nrm hb51n
       iterate 3 (refine zn E hb51 ?_; clear E a; intro a E)
       refine zp E (zAf E rfl rfl hb51 rfl) ?_; clear E a; intro a E
       refine wpList_nil ?_
       refine zAy ?_
       exact ⟨_, by first | (simp; omega) | (simp only [decide_eq_true_eq]; omega), S, E.keep (kE10 rfl rfl rfl rfl rfl rfl rfl rfl rfl rfl)⟩
      ·have hb51n := hb51; replace hb51n := Nrm.nrm hb51n
       iterate 3 (refine zyd E hb51 ?_; clear E a; intro a E)
       refine zp E (zAi E rfl rfl hb51 rfl) ?_; clear E a; intro a E
       refine wpList_nil ?_
       refine zAy ?_
       exact ⟨_, by first | (simp; omega) | (simp only [decide_eq_true_eq]; omega), S, E.keep (kE10 rfl rfl rfl rfl rfl rfl rfl rfl rfl rfl)⟩
 ·clear E S a; intro a w J; obtain ⟨bt, hbt, S, E⟩ := J
  refine zAb hK ?_; clear hK K
  refine zAt E rfl (fun hb => ?_) (fun hb => ?_)
  ·replace hb := Nrm.nrm hb
   skip
   refine wp_seq_k ?_; intro K hK
   refine zAa ?_
   iterate 2 (refine zd E ?_; clear E a; intro a E)
   refine wpList_nil ?_
   refine zAb hK ?_; clear hK K
   refine wp_ret ?_
   refine zAu ?_; clear hK K
   refine ret1 E rfl rfl ?_
   exact ⟨_, rfl, rfl, S.tr⟩
  ·replace hb := Nrm.nrm hb
   have hp : 3 ≤ n ∧ n ≤ 5 ∧ 0 ≤ bd ∧ bd < n ∧ 0 ≤ nx ∧ nx < n := (by have := mt hbt.2 (by simp [hb]); exact Classical.not_not.1 this)
   refine wp_skip ?_
   refine zAb hK ?_; clear hK K
   refine wp_seq_k ?_; intro K hK
   obtain ⟨nn, rfl⟩ : ∃ nn : Nat, n = nn := ⟨n.toNat, by omega⟩
   obtain ⟨kk, rfl⟩ : ∃ kk : Nat, bd = kk := ⟨bd.toNat, by omega⟩
   obtain ⟨kn, rfl⟩ : ∃ kn : Nat, nx = kn := ⟨nx.toNat, by omega⟩
   refine zAa ?_
   refine zd E ?_; clear E a; intro a E
   refine zAh E rfl rfl dZ rfl Tryz.func6 rfl yZ rfl (begun7_ret nn oZ _) ?_
   rintro v59 w ⟨x, p, t, R, C, xs, Lv, vl, vk, CL, CK, vD, CD, vL, CLs, v4, v5, v6, v7, rfl, hGk, hCL, hCK, hCD, hCLs, hT⟩; clear E a; intro a E
   have S := S.call sZ hT; simp only [List.cons_append, List.nil_append] at S; have hU := hGk.up oZ; have hlen := hGk.len; have hnd := hGk.nd; have hnf := fun x hx => (hGk.dk x hx).1; obtain ⟨hC, _, _, _, hLv⟩ := hGk
   obtain ⟨adD, cD, rfl⟩ := hCD.slice
   obtain ⟨adl, cl, rfl⟩ := hCL.slice
   have hw : 3 ≤ xs.length ∧ xs.length ≤ 5 := by omega
   have hw0 : 0 < xs.length := by omega
   have hkk : kk < xs.length := by omega
   have hkn : kn < xs.length := by omega
   obtain ⟨hnp0, hnp1⟩ := needP_le hw b.length
   iterate 7 (refine zd E ?_; clear E a; intro a E)
   refine wpList_nil ?_
   refine zAb hK ?_; clear hK K
   iterate 2 (refine wp_seq_k ?_; intro K hK)
   refine zAa ?_
   iterate 3 (refine zd E ?_; clear E a; intro a E)
   refine zBj E (t := 65) rfl (rfl) (fun hb65 => ?_)
   iterate 2 (refine zyd E hb65 ?_; clear E a; intro a E)
   refine zp E (zAi E rfl rfl hb65 rfl) ?_; clear E a; intro a E
   refine wpList_nil ?_
   refine zAb hK ?_; clear hK K
   refine zAv E rfl (rfl) ?_
   refine wp_skip ?_
   refine zAb hK ?_; clear hK K
   refine wp_seq_k ?_; intro K hK
   replace E := E.keep (e' := [(1, _), (2, _), (3, _), (4, _), (5, _), (6, _), (7, _), (18, _)]) (kE8 rfl rfl rfl rfl rfl rfl rfl rfl)
   refine zAa ?_
   iterate 2 (refine zd E ?_; clear E a; intro a E)
   refine zAh E rfl rfl dZ rfl Tryz.func7 rfl yZ rfl (zLf O _ b hb0 hbl _ mZ (hL.2.1.sub (fun Q hQ => by rw [List.mem_singleton.1 hQ]; exact mZ)) (hL.2.2.sub (fun Q hQ => by rw [List.mem_singleton.1 hQ]; exact mZ)) kind _ S.hp) ?_
   rintro v72 w ⟨rfl, hT⟩; clear E a; intro a E
   have S := S.all hT
   iterate 3 (refine zd E ?_; clear E a; intro a E)
   refine zAg rfl (zBv E S rfl rfl dZ rfl rfl rfl ?_); clear E S a; intro a w b21 E S
   refine zAg rfl (zBu E S rfl rfl rfl rfl (by simp [Value.oneCell']) rfl pZ (by simp) ?_); clear E S a; intro a w E S; simp only [List.take_succ_cons, List.take_zero, List.drop_succ_cons, List.drop_zero, List.cons_append, List.nil_append, List.append_nil, List.length_cons, List.length_nil, Nat.zero_add, Nat.add_zero] at S
   refine zd E ?_; clear E a; intro a E
   refine wpList_nil ?_
   refine zAb hK ?_; clear hK K
   refine wp_seq_k ?_; intro K hK
   obtain ⟨sm, hsm⟩ : ∃ sm, sm = sumK kind b := ⟨_, rfl⟩
   rw [← hsm] at E S
   have hse : sm.2 = 0 ↔ (kind = 1 ∨ kind = 2) := by rw [hsm]; exact sumK_err
   refine zAa ?_
   rcases (show ((kind = 1 ∨ kind = 2) ∧ zHh xs.length 32 at_ b.length) ∨ ¬ zHh xs.length 32 at_ b.length ∨ (¬ (kind = 1 ∨ kind = 2) ∧ zHh xs.length 32 at_ b.length) by by_cases h1 : kind = 1 ∨ kind = 2 <;> by_cases h2 : zHh xs.length 32 at_ b.length <;> simp [h1, h2]) with ⟨hk12, hfit⟩ | hfit | ⟨hk12, hfit⟩
   ·skip
    obtain ⟨hbb, hat0, hN⟩ := fitP_is hw hfit; obtain ⟨an, rfl⟩ : ∃ an : Nat, at_ = an := ⟨at_.toNat, by omega⟩; have hN : an + (layP xs.length b).length ≤ xs.length * 32 := oZ
    iterate 2 (refine zd E ?_; clear E a; intro a E)
    refine zp E (by first | exact zAc (q := 3) E rfl rfl rfl | exact zAd (q := 3) E rfl rfl rfl) ?_; clear E a; intro a E
    iterate 3 (refine zd E ?_; clear E a; intro a E)
    refine zAh E rfl rfl dZ rfl Tryz.func8 rfl yZ rfl (zJi p R C hC xs 0 hU oZ hw hnd Lv hLv t adl cl _ CL hCL oZ hnf an _ b O hb0 9 oZ hfit hbb ⟨hN, (zFz hw hbb).2.1⟩ _ (S.hp.sel sZ)) ?_
    rintro v81 w ⟨rfl, R1, C1, Lv1, hC1, hLv1, hU1, hW1, hLi, hT⟩; clear E a; intro a E
    have S := S.call sZ hT; simp only [List.cons_append, List.nil_append] at S
    refine zd E ?_; clear E a; intro a E
    refine wpList_nil ?_
    refine zAb hK ?_; clear hK K
    iterate 2 (refine wp_seq_k ?_; intro K hK)
    replace E := E.keep (e' := [(1, _), (2, _), (3, _), (4, _), (5, _), (6, _), (7, _), (18, _), (21, _), (22, _), (23, _)]) (kE11 rfl rfl rfl rfl rfl rfl rfl rfl rfl rfl rfl)
    refine zAa ?_
    iterate 3 (refine zd E ?_; clear E a; intro a E)
    refine zBj E (t := 84) rfl ((by rw [hse.2 hk12]; rfl)) (fun hb84 => ?_)
    iterate 2 (refine zyd E hb84 ?_; clear E a; intro a E)
    refine zp E (zAi E rfl rfl hb84 rfl) ?_; clear E a; intro a E
    refine wpList_nil ?_
    refine zAb hK ?_; clear hK K
    refine zAv E rfl (rfl) ?_
    refine wp_skip ?_
    refine zAb hK ?_; clear hK K
    refine wp_seq_k ?_; intro K hK
    have hck : chkK kind sm.1 b = true := by rw [hsm]; exact chkK_self hk12 b
    refine zDm (fun (a : Act) (w' : World) => ∃ (R2 : Rk) (C2 : zAk), RkC p R2 C2 ∧ Up R2 xs 96 ∧ Hurt R2 xs kk an b ∧ (dead = false → ∀ y ∈ xs, (dkOf R2 y.2).failed = false) ∧ St w0 [O] w' [[(x, zDc p (.slice adD xs.length cD) vL (ptr t) v4 v5 v6 v7)], C2, Lv1, [(t, ptcl (.slice adl xs.length cl) vk 32)], CL, CD, CLs, [(b21, cel [.int .u64 sm.1.a, .int .u64 sm.1.b, .int .u64 sm.1.c, .int .u64 sm.1.d] 29)], O] ∧ Fr a 202 [(2, .int .i64 kn), (3, .int .i64 an), (4, .slice adb b.length cb), (5, .int .i64 kind), (7, .bool dead), (18, ptr x), (21, ptr b21)]) ?_ ?_
    ·skip
     refine zAa ?_
     rcases dead with _ | _
     ·skip
      iterate 4 (refine zd E ?_; clear E a; intro a E)
      refine zAh E rfl rfl dZ rfl Tryz.func11 rfl yZ rfl (spoilt_mask p R1 C1 hC1 xs 96 hU1 x adD cD vL (ptr t) v4 v5 v6 v7 CD hCD kk hkk _ mask O hm _ (S.hp.sel sZ)) ?_
      rintro v129 w ⟨R2, C2, hC2, hU2, hs2, hT⟩; clear E a; intro a E
      have S := S.call sZ hT; simp only [List.cons_append, List.nil_append] at S
      refine wpList_nil ?_
      refine zAy ?_
      exact ⟨R2, C2, hC2, hU2, hurt_mask hw0 hnd hkk hW1 hLi hs2, fun _ y hy => (hs2 y hy).1.trans (hW1 y hy), S.only sZ, E.keep (kE7 rfl rfl rfl rfl rfl rfl rfl)⟩
     ·skip
      iterate 4 (refine zd E ?_; clear E a; intro a E)
      refine zAh E rfl rfl dZ rfl Tryz.func11 rfl yZ rfl (spoilt_dead p R1 C1 hC1 xs 96 hU1 x adD cD vL (ptr t) v4 v5 v6 v7 CD hCD kk hkk 0 32 _ _ (S.hp.sel sZ)) ?_
      rintro v129 w ⟨C2, hC2, hT⟩; clear E a; intro a E
      have S := S.call sZ hT; simp only [List.cons_append, List.nil_append] at S
      refine wpList_nil ?_
      refine zAy ?_
      exact ⟨_, C2, hC2, (hU1.fail (List.getElem_mem hkk)).1, (hurt_fail hw0 hU1 hnd hkk hW1 hLi).1, fun q => Bool.noConfusion q, S.only sZ, E.keep (kE7 rfl rfl rfl rfl rfl rfl rfl)⟩
    ·clear E S a; intro a w J; obtain ⟨R2, C2, hC2, hU2, hH, hnf2, S, E⟩ := J
     refine zAb hK ?_; clear hK K
     refine wp_seq_k ?_; intro K hK
     refine zAa ?_
     iterate 4 (refine zd E ?_; clear E a; intro a E)
     refine zp E (zBg (vs := [_, _, _, _]) E rfl rfl rfl (S.get pZ) rfl rfl) ?_; clear E a; intro a E
     refine zAh E rfl rfl dZ rfl Tryz.func12 rfl yZ rfl (clash_ret p R2 C2 hC2 xs 96 hU2 hw Lv1 hLv1 x _ vL v4 v5 v6 v7 CLs hCLs t adl cl _ O hL an _ b hb0 hbb hN kind sm.1 _ (S.hp.sel sZ)) ?_
     rintro v135 w ⟨rc, Lv2, rfl, hLv2, hcl, hT⟩; clear E a; intro a E
     have S := S.call sZ hT; simp only [List.cons_append, List.nil_append] at S
     refine zd E ?_; clear E a; intro a E
     refine wpList_nil ?_
     refine zAb hK ?_; clear hK K
     iterate 2 (refine wp_seq_k ?_; intro K hK)
     refine zAa ?_
     refine zd E ?_; clear E a; intro a E
     refine wpList_nil ?_
     refine zAb hK ?_; clear hK K
     refine zAt E rfl (fun hb => ?_) (fun hb => ?_)
     ·replace hb := Nrm.nrm hb
      skip
      refine wp_seq_k ?_; intro K hK
      refine zAa ?_
      refine zd E ?_; clear E a; intro a E
      refine wpList_nil ?_
      refine zAb hK ?_; clear hK K
      refine wp_ret ?_
      refine zAu ?_; clear hK K
      refine ret1 E rfl rfl ?_
      exact ⟨_, rfl, rfl, (S.only (Bs := [O]) sZ).tr⟩
     ·replace hb := Nrm.nrm hb
      have hF2 := hH.finds hw hbb hN hU2 hkk hck; have hG2 := hH.goods hw hbb hN hU2 (hcl hb)
      refine wp_skip ?_
      refine zAb hK ?_; clear hK K
      refine wp_seq_k ?_; intro K hK
      refine zAw S (.ofL [(0, 0), (1, 0), (2, 0), (3, 0), (4, 0), (5, 0), (6, 0), (7, 0), (8, 0), (9, 3), (10, 2), (11, 2), (12, 2), (13, 2), (14, 2)]) yZ yZ ?_
      clear S; intro w S
      iterate 2 (refine zmd E ?_; clear E a; intro a E)
      refine zm E rfl (fun w h => by first | exact zAc (q := 3) E rfl rfl rfl | exact zAd (q := 3) E rfl rfl rfl) ?_; clear E a; intro a E
      iterate 5 (refine zmd E ?_; clear E a; intro a E)
      refine zm E rfl (fun w h => zBg (vs := [_, _, _, _]) E rfl rfl rfl (h.one mZ) rfl rfl) ?_; clear E a; intro a E
      refine zCz E rfl rfl rfl dZ rfl Tryz.func13 rfl yZ rfl (zJj p R2 C2 hC2 xs 96 hU2 oZ hw hnd Lv2 hLv2 t adl cl _ CL hCL hH.one O hL.1 an b hbb hN kind hk12 sm.1 hF2 hG2 _ (S.hp.sel sZ)) ?_
      rintro v147 w ⟨v8, Cg, R3, C3, Lv3, rfl, hRd, hC3, hLv3, hU3, hf3, hs3, hT⟩; clear E a; intro a E
      have S := S.call sZ hT; simp only [List.cons_append, List.nil_append] at S
      obtain ⟨ad8, c8, rfl⟩ := hRd.slice
      obtain ⟨hF3, hG3⟩ := after_read hw0 hf3 hF2 hG2 hck hs3
      have hone3 : zIm R3 xs := fun y z hy hz => hH.one y z (by rw [← lost_same hw0 hf3]; exact hy) (by rw [← lost_same hw0 hf3]; exact hz)
      refine zBa E rfl rfl rfl dZ (fun w => zBs E rfl rfl) ?_; clear E a; intro a E
      iterate 2 (refine zBa E rfl rfl rfl dZ (fun w => zDh E rfl rfl rfl) ?_; clear E a; intro a E)
      iterate 2 (refine zBa E rfl rfl rfl dZ (fun w => zBm E rfl rfl) ?_; clear E a; intro a E)
      refine zAz ?_
      refine zAb hK ?_; clear hK K
      refine wp_seq_k ?_; intro K hK
      replace E := E.keep (e' := [(2, _), (3, _), (4, _), (5, _), (7, _), (18, _), (21, _), (25, _), (26, _)]) (kE9 rfl rfl rfl rfl rfl rfl rfl rfl rfl)
      refine zAw S (.ofL [(0, 0), (1, 0), (2, 0), (3, 0), (4, 0), (5, 0), (6, 0), (7, 0), (8, 0), (9, 3), (10, 2), (11, 2), (12, 2), (13, 2), (14, 2)]) yZ yZ ?_
      clear S; intro w S
      iterate 2 (refine zmd E ?_; clear E a; intro a E)
      refine zm E rfl (fun w h => by first | exact zAc (q := 3) E rfl rfl rfl | exact zAd (q := 3) E rfl rfl rfl) ?_; clear E a; intro a E
      iterate 5 (refine zmd E ?_; clear E a; intro a E)
      refine zm E rfl (fun w h => zBg (vs := [_, _, _, _]) E rfl rfl rfl (h.one mZ) rfl rfl) ?_; clear E a; intro a E
      refine zCz E rfl rfl rfl dZ rfl Tryz.func14 rfl yZ rfl (pScrub_good p R3 C3 hC3 xs (96 + 96) hU3 oZ hw hnd Lv3 hLv3 t adl cl _ CL hCL hone3 O hL.1 an b hbb hN kind hk12 sm.1 hF3 hG3 _ (S.hp.sel sZ)) ?_
      rintro v160 w ⟨n9, R4, C4, Lv4, rfl, hC4, hLv4, hU4, hf4, hs4, hT⟩; clear E a; intro a E
      have S := S.call sZ hT; simp only [List.cons_append, List.nil_append] at S
      refine zBa E rfl rfl rfl dZ (fun w => zBs E rfl rfl) ?_; clear E a; intro a E
      iterate 2 (refine zBa E rfl rfl rfl dZ (fun w => zDh E rfl rfl rfl) ?_; clear E a; intro a E)
      iterate 2 (refine zBa E rfl rfl rfl dZ (fun w => zBm E rfl rfl) ?_; clear E a; intro a E)
      refine zAz ?_
      refine zAb hK ?_; clear hK K
      iterate 2 (refine wp_seq_k ?_; intro K hK)
      replace E := E.keep (e' := [(2, _), (3, _), (4, _), (5, _), (7, _), (18, _), (21, _), (25, _), (26, _), (28, _)]) (kE10 rfl rfl rfl rfl rfl rfl rfl rfl rfl rfl)
      refine zAa ?_
      iterate 3 (refine zd E ?_; clear E a; intro a E)
      refine zBj E (t := 165) rfl (rfl) (fun hb165 => ?_)
      iterate 2 (refine zyd E hb165 ?_; clear E a; intro a E)
      refine zp E (zAi E rfl rfl hb165 rfl) ?_; clear E a; intro a E
      refine zd E ?_; clear E a; intro a E
      refine zBj E (t := 169) rfl (rfl) (fun hb169 => ?_)
      refine zyd E hb169 ?_; clear E a; intro a E
      refine zy E hb169 (zCh E rfl rfl rfl rfl rfl (sl_of Cg (b := b) hRd rfl rfl) (S.stab.at mZ)) ?_; clear E a; intro a E
      refine zyd E hb169 ?_; clear E a; intro a E
      refine zy E hb169 (zCh E rfl rfl rfl rfl rfl hb0 (S.stab.at mZ)) ?_; clear E a; intro a E
      refine zyd E hb169 ?_; clear E a; intro a E
      refine zp E (zAi E rfl rfl hb169 rfl) ?_; clear E a; intro a E
      refine wpList_nil ?_
      refine zAb hK ?_; clear hK K
      refine zAv E rfl ((by simp)) ?_
      refine wp_skip ?_
      refine zAb hK ?_; clear hK K
      iterate 2 (refine wp_seq_k ?_; intro K hK)
      refine zAa ?_
      refine zd E ?_; clear E a; intro a E
      refine wpList_nil ?_
      refine zAb hK ?_; clear hK K
      refine zAt E rfl (fun hb => ?_) (fun hb => ?_)
      ·replace hb := Nrm.nrm hb
       skip
       refine wp_seq_k ?_; intro K hK
       replace E := E.keep (e' := [(2, _), (3, _), (4, _), (5, _), (18, _), (21, _)]) (kE6 rfl rfl rfl rfl rfl rfl)
       refine zAa ?_
       refine zd E ?_; clear E a; intro a E
       refine wpList_nil ?_
       refine zAb hK ?_; clear hK K
       refine wp_ret ?_
       refine zAu ?_; clear hK K
       refine ret1 E rfl rfl ?_
       exact ⟨_, rfl, rfl, (S.only (Bs := [O]) sZ).tr⟩
      ·replace hb := Nrm.nrm hb
       have hnf4 : ∀ y ∈ xs, (dkOf R4 y.2).failed = false := fun y hy => ((hf4 y hy).trans (hf3 y hy)).trans (hnf2 hb y hy)
       refine wp_skip ?_
       refine zAb hK ?_; clear hK K
       refine wp_seq_k ?_; intro K hK
       replace E := E.keep (e' := [(2, _), (3, _), (4, _), (5, _), (18, _), (21, _)]) (kE6 rfl rfl rfl rfl rfl rfl)
       have hLi4 : Lies R4 xs an (layP xs.length b) (layP xs.length b).length := by
        rcases hs4 with ⟨_, q⟩ | ⟨_, q⟩
        ·exact absurd (lsTo_no fun i _ => zFo hw0 (fun y hy => (hf3 y hy).trans (hnf2 hb y hy)) _) q
        ·exact q
       obtain ⟨hH5, hd5⟩ := hurt_fail hw0 hU4 hnd hkn hnf4 hLi4
       have hU5 := (hU4.fail (List.getElem_mem hkn)).1
       refine zAa ?_
       iterate 2 (refine zd E ?_; clear E a; intro a E)
       refine zAh E rfl rfl dZ rfl Tryz.func11 rfl yZ rfl (spoilt_dead p R4 C4 hC4 xs (96 + 96 + 96) hU4 x adD cD vL (ptr t) v4 v5 v6 v7 CD hCD kn hkn 0 32 _ _ (S.hp.sel sZ)) ?_
       rintro v179 w ⟨C5, hC5, hT⟩; clear E a; intro a E
       have S := S.call sZ hT; simp only [List.cons_append, List.nil_append] at S
       refine wpList_nil ?_
       refine zAb hK ?_; clear hK K
       refine wp_seq_k ?_; intro K hK
       obtain ⟨R5, hR5⟩ : ∃ R5, R5 = R4.fail (dkOf R4 xs[kn].2) := ⟨_, rfl⟩
       rw [← hR5] at hC5 hU5 hH5 hd5
       refine zAw S (.ofL [(0, 0), (1, 0), (2, 0), (3, 0), (4, 0), (5, 0), (6, 0), (7, 0), (8, 0), (9, 3), (10, 2), (11, 2), (12, 2), (13, 2), (14, 2)]) yZ yZ ?_
       clear S; intro w S
       iterate 2 (refine zmd E ?_; clear E a; intro a E)
       refine zm E rfl (fun w h => by first | exact zAc (q := 3) E rfl rfl rfl | exact zAd (q := 3) E rfl rfl rfl) ?_; clear E a; intro a E
       iterate 5 (refine zmd E ?_; clear E a; intro a E)
       refine zm E rfl (fun w h => zBg (vs := [_, _, _, _]) E rfl rfl rfl (h.one mZ) rfl rfl) ?_; clear E a; intro a E
       refine zCz E rfl rfl rfl dZ rfl Tryz.func13 rfl yZ rfl (zJj p R5 C5 hC5 xs (96 + 96 + 96) hU5 oZ hw hnd Lv4 hLv4 t adl cl _ CL hCL hH5.one O hL.1 an b hbb hN kind hk12 sm.1 (hH5.finds hw hbb hN hU5 hkn hck) (hH5.goods hw hbb hN hU5 (hH5.dead hw hbb hd5 hck)) _ (S.hp.sel sZ)) ?_
       rintro v190 w ⟨v9, Cg9, R6, C6, Lv6, rfl, hRd9, hC6, hLv6, hU6, hf6, hs6, hT⟩; clear E a; intro a E
       have S := S.call sZ hT; simp only [List.cons_append, List.nil_append] at S
       obtain ⟨ad9, c9, rfl⟩ := hRd9.slice
       refine zBa E rfl rfl rfl dZ (fun w => zBs E rfl rfl) ?_; clear E a; intro a E
       iterate 2 (refine zBa E rfl rfl rfl dZ (fun w => zDh E rfl rfl rfl) ?_; clear E a; intro a E)
       iterate 2 (refine zBa E rfl rfl rfl dZ (fun w => zBm E rfl rfl) ?_; clear E a; intro a E)
       refine zAz ?_
       refine zAb hK ?_; clear hK K
       refine wp_seq_k ?_; intro K hK
       replace E := E.keep (e' := [(4, _), (29, _), (30, _)]) (kE3 rfl rfl rfl)
       refine zAa ?_
       iterate 3 (refine zd E ?_; clear E a; intro a E)
       refine zBy E (t := 195) rfl (rfl) (fun hb195 => ?_)
       refine zyd E hb195 ?_; clear E a; intro a E
       refine zy E hb195 (zCh E rfl rfl rfl rfl rfl (sl_of Cg9 (b := b) hRd9 rfl rfl) (S.stab.at mZ)) ?_; clear E a; intro a E
       refine zyd E hb195 ?_; clear E a; intro a E
       refine zy E hb195 (zCh E rfl rfl rfl rfl rfl hb0 (S.stab.at mZ)) ?_; clear E a; intro a E
       refine zyd E hb195 ?_; clear E a; intro a E
       refine zp E (zAf E rfl rfl hb195 rfl) ?_; clear E a; intro a E
       refine zd E ?_; clear E a; intro a E
       refine wpList_nil ?_
       refine zAb hK ?_; clear hK K
       refine wp_ret ?_
       refine ret1 E rfl rfl ?_
       exact ⟨_, rfl, by simp, (S.only (Bs := [O]) sZ).tr⟩
   ·skip
    iterate 2 (refine zd E ?_; clear E a; intro a E)
    refine zp E (by first | exact zAc (q := 3) E rfl rfl rfl | exact zAd (q := 3) E rfl rfl rfl) ?_; clear E a; intro a E
    iterate 3 (refine zd E ?_; clear E a; intro a E)
    refine zAh E rfl rfl dZ rfl Tryz.func8 rfl yZ rfl (pWrite_no xs hw t adl cl _ at_ ha _ b O hb0 9 hfit _ mZ _ S.hp) ?_
    rintro v81 w ⟨rfl, hT⟩; clear E a; intro a E
    have S := S.all hT
    refine zd E ?_; clear E a; intro a E
    refine wpList_nil ?_
    refine zAb hK ?_; clear hK K
    iterate 2 (refine wp_seq_k ?_; intro K hK)
    replace E := E.keep (e' := [(1, _), (2, _), (3, _), (4, _), (5, _), (6, _), (7, _), (18, _), (21, _), (22, _), (23, _)]) (kE11 rfl rfl rfl rfl rfl rfl rfl rfl rfl rfl rfl)
    refine zAa ?_
    iterate 3 (refine zd E ?_; clear E a; intro a E)
    refine zAo E (t := 84) rfl (fun hb84 => ?_) (fun hb84 => ?_)
    ·have hb84n := hb84; replace hb84n := Nrm.nrm hb84n
     iterate 2 (refine zn E hb84 ?_; clear E a; intro a E)
     refine zp E (zAf E rfl rfl hb84 rfl) ?_; clear E a; intro a E
     refine wpList_nil ?_
     refine zAb hK ?_; clear hK K
     refine zCj E rfl rfl ?_
     refine wp_seq_k ?_; intro K hK
     refine zAw S (.ofL [(0, 0), (1, 0), (2, 0), (3, 0), (4, 0), (5, 0), (6, 0), (7, 0), (8, 0), (9, 0), (10, 0), (11, 0), (12, 0), (13, 0), (14, 0), (15, 0), (16, 0), (17, 0), (18, 0), (19, 0), (20, 0), (21, 2), (22, 0), (23, 0), (24, 0), (25, 0), (27, 0), (28, 0), (29, 0), (30, 0), (31, 0), (32, 0), (26, 1), (33, 3), (34, 2), (35, 2), (36, 2), (37, 2)]) yZ yZ ?_
     clear S; intro w S
     iterate 4 (refine zmd E ?_; clear E a; intro a E)
     refine zAo E (t := 91) rfl (fun hb91 => ?_) (fun hb91 => ?_)
     ·have hb91n := hb91; replace hb91n := Nrm.nrm hb91n
      iterate 3 (refine zAl E rfl rfl rfl rfl rfl hb91 rfl dZ ?_; clear E a; intro a E)
      refine zm E rfl (fun w h => zAf E rfl rfl hb91 rfl) ?_; clear E a; intro a E
      refine zmd E ?_; clear E a; intro a E
      iterate 2 (refine zAl E rfl rfl rfl rfl rfl rfl rfl dZ ?_; clear E a; intro a E)
      refine zm E rfl (fun w h => zAf E rfl rfl rfl rfl) ?_; clear E a; intro a E
      refine zmd E ?_; clear E a; intro a E
      iterate 2 (refine zAl E rfl rfl rfl rfl rfl rfl rfl dZ ?_; clear E a; intro a E)
      refine zm E rfl (fun w h => zAf E rfl rfl rfl rfl) ?_; clear E a; intro a E
      refine zmd E ?_; clear E a; intro a E
      iterate 2 (refine zAl E rfl rfl rfl rfl rfl rfl rfl dZ ?_; clear E a; intro a E)
      refine zm E rfl (fun w h => zAf E rfl rfl rfl rfl) ?_; clear E a; intro a E
      refine zmd E ?_; clear E a; intro a E
      refine zBf E rfl rfl rfl rfl rfl rfl rfl dZ ?_; clear E a; intro a E
      iterate 10 (refine zAl E rfl rfl rfl rfl rfl rfl rfl dZ ?_; clear E a; intro a E)
      refine zBl E rfl rfl rfl rfl rfl rfl rfl dZ (S.stab.sub (by first | (simp; done) | (simp +contextual; done) | (simp [*]; done))) ?_; clear E a; intro a E
      refine zBi E rfl rfl rfl rfl rfl rfl rfl dZ ?_; clear E a; intro a E
      iterate 2 (refine zBf E rfl rfl rfl rfl rfl rfl rfl dZ ?_; clear E a; intro a E)
      refine zBa E rfl rfl rfl dZ (fun w => zAf E rfl rfl rfl rfl) ?_; clear E a; intro a E
      refine zBa E rfl rfl rfl dZ (fun w => zBm E rfl rfl) ?_; clear E a; intro a E
      refine zAz ?_
      refine zAb hK ?_; clear hK K
      refine wp_ret ?_
      refine zAu ?_; clear hK K
      refine ret1 E rfl rfl ?_
      exact ⟨_, rfl, by first | rfl | (have := zEd hw hfit oZ oZ oZ; simp only [decide_eq_true (show ((xs.length : Int) * 32 - zEc xs.length b.length) < at_ by omega)]) , (S.only (Bs := [O]) sZ).tr⟩
     ·have hb91n := hb91; replace hb91n := Nrm.nrm hb91n
      refine zAe E rfl rfl rfl rfl rfl hb91 rfl dZ (fun w h => zBs E rfl rfl) ?_; clear E a; intro a E
      refine zAe E rfl rfl rfl rfl rfl hb91 rfl dZ (fun w h => by first | exact zFq E rfl rfl rfl | exact zCx E rfl rfl rfl | exact zCb E rfl rfl rfl) ?_; clear E a; intro a E
      refine zAe E rfl rfl rfl rfl rfl hb91 rfl dZ (fun w h => zFt E rfl rfl rfl) ?_; clear E a; intro a E
      refine zm E rfl (fun w h => zAi E rfl rfl hb91 rfl) ?_; clear E a; intro a E
      refine zmd E ?_; clear E a; intro a E
      refine zAo E (t := 96) rfl (fun hb96 => ?_) (fun hb96 => ?_)
      ·have hb96n := hb96; replace hb96n := Nrm.nrm hb96n
       iterate 2 (refine zAl E rfl rfl rfl rfl rfl hb96 rfl dZ ?_; clear E a; intro a E)
       refine zm E rfl (fun w h => zAf E rfl rfl hb96 rfl) ?_; clear E a; intro a E
       refine zmd E ?_; clear E a; intro a E
       iterate 2 (refine zAl E rfl rfl rfl rfl rfl rfl rfl dZ ?_; clear E a; intro a E)
       refine zm E rfl (fun w h => zAf E rfl rfl rfl rfl) ?_; clear E a; intro a E
       refine zmd E ?_; clear E a; intro a E
       iterate 2 (refine zAl E rfl rfl rfl rfl rfl rfl rfl dZ ?_; clear E a; intro a E)
       refine zm E rfl (fun w h => zAf E rfl rfl rfl rfl) ?_; clear E a; intro a E
       refine zmd E ?_; clear E a; intro a E
       refine zBf E rfl rfl rfl rfl rfl rfl rfl dZ ?_; clear E a; intro a E
       iterate 10 (refine zAl E rfl rfl rfl rfl rfl rfl rfl dZ ?_; clear E a; intro a E)
       refine zBl E rfl rfl rfl rfl rfl rfl rfl dZ (S.stab.sub (by first | (simp; done) | (simp +contextual; done) | (simp [*]; done))) ?_; clear E a; intro a E
       refine zBi E rfl rfl rfl rfl rfl rfl rfl dZ ?_; clear E a; intro a E
       iterate 2 (refine zBf E rfl rfl rfl rfl rfl rfl rfl dZ ?_; clear E a; intro a E)
       refine zBa E rfl rfl rfl dZ (fun w => zAf E rfl rfl rfl rfl) ?_; clear E a; intro a E
       refine zBa E rfl rfl rfl dZ (fun w => zBm E rfl rfl) ?_; clear E a; intro a E
       refine zAz ?_
       refine zAb hK ?_; clear hK K
       refine wp_ret ?_
       refine zAu ?_; clear hK K
       refine ret1 E rfl rfl ?_
       exact ⟨_, rfl, by first | rfl | (have := zEd hw hfit oZ oZ oZ; simp only [decide_eq_true (show ((xs.length : Int) * 32 - zEc xs.length b.length) < at_ by omega)]) , (S.only (Bs := [O]) sZ).tr⟩
      ·have hb96n := hb96; replace hb96n := Nrm.nrm hb96n
       refine zAe E rfl rfl rfl rfl rfl hb96 rfl dZ (fun w h => zBs E rfl rfl) ?_; clear E a; intro a E
       refine zAe E rfl rfl rfl rfl rfl hb96 rfl dZ (fun w h => zGd E rfl rfl rfl) ?_; clear E a; intro a E
       refine zm E rfl (fun w h => zAi E rfl rfl hb96 rfl) ?_; clear E a; intro a E
       refine zmd E ?_; clear E a; intro a E
       refine zAo E (t := 100) rfl (fun hb100 => ?_) (fun hb100 => ?_)
       ·have hb100n := hb100; replace hb100n := Nrm.nrm hb100n
        iterate 2 (refine zAl E rfl rfl rfl rfl rfl hb100 rfl dZ ?_; clear E a; intro a E)
        refine zm E rfl (fun w h => zAf E rfl rfl hb100 rfl) ?_; clear E a; intro a E
        refine zmd E ?_; clear E a; intro a E
        iterate 2 (refine zAl E rfl rfl rfl rfl rfl rfl rfl dZ ?_; clear E a; intro a E)
        refine zm E rfl (fun w h => zAf E rfl rfl rfl rfl) ?_; clear E a; intro a E
        refine zmd E ?_; clear E a; intro a E
        refine zBf E rfl rfl rfl rfl rfl rfl rfl dZ ?_; clear E a; intro a E
        iterate 10 (refine zAl E rfl rfl rfl rfl rfl rfl rfl dZ ?_; clear E a; intro a E)
        refine zBl E rfl rfl rfl rfl rfl rfl rfl dZ (S.stab.sub (by first | (simp; done) | (simp +contextual; done) | (simp [*]; done))) ?_; clear E a; intro a E
        refine zBi E rfl rfl rfl rfl rfl rfl rfl dZ ?_; clear E a; intro a E
        iterate 2 (refine zBf E rfl rfl rfl rfl rfl rfl rfl dZ ?_; clear E a; intro a E)
        refine zBa E rfl rfl rfl dZ (fun w => zAf E rfl rfl rfl rfl) ?_; clear E a; intro a E
        refine zBa E rfl rfl rfl dZ (fun w => zBm E rfl rfl) ?_; clear E a; intro a E
        refine zAz ?_
        refine zAb hK ?_; clear hK K
        refine wp_ret ?_
        refine zAu ?_; clear hK K
        refine ret1 E rfl rfl ?_
        exact ⟨_, rfl, by first | rfl | (have := zEd hw hfit oZ oZ oZ; simp only [decide_eq_true (show ((xs.length : Int) * 32 - zEc xs.length b.length) < at_ by omega)]) , (S.only (Bs := [O]) sZ).tr⟩
       ·have hb100n := hb100; replace hb100n := Nrm.nrm hb100n
        refine zAe E rfl rfl rfl rfl rfl hb100 rfl dZ (fun w h => zBs E rfl rfl) ?_; clear E a; intro a E
        refine zAe E rfl rfl rfl rfl rfl hb100 rfl dZ (fun w h => zFt E rfl rfl rfl) ?_; clear E a; intro a E
        refine zm E rfl (fun w h => zAi E rfl rfl hb100 rfl) ?_; clear E a; intro a E
        refine zmd E ?_; clear E a; intro a E
        refine zAo E (t := 104) rfl (fun hb104 => ?_) (fun hb104 => ?_)
        ·have hb104n := hb104; replace hb104n := Nrm.nrm hb104n
         iterate 2 (refine zAl E rfl rfl rfl rfl rfl hb104 rfl dZ ?_; clear E a; intro a E)
         refine zm E rfl (fun w h => zAf E rfl rfl hb104 rfl) ?_; clear E a; intro a E
         refine zmd E ?_; clear E a; intro a E
         refine zBf E rfl rfl rfl rfl rfl rfl rfl dZ ?_; clear E a; intro a E
         iterate 10 (refine zAl E rfl rfl rfl rfl rfl rfl rfl dZ ?_; clear E a; intro a E)
         refine zBl E rfl rfl rfl rfl rfl rfl rfl dZ (S.stab.sub (by first | (simp; done) | (simp +contextual; done) | (simp [*]; done))) ?_; clear E a; intro a E
         refine zBi E rfl rfl rfl rfl rfl rfl rfl dZ ?_; clear E a; intro a E
         iterate 2 (refine zBf E rfl rfl rfl rfl rfl rfl rfl dZ ?_; clear E a; intro a E)
         refine zBa E rfl rfl rfl dZ (fun w => zAf E rfl rfl rfl rfl) ?_; clear E a; intro a E
         refine zBa E rfl rfl rfl dZ (fun w => zBm E rfl rfl) ?_; clear E a; intro a E
         refine zAz ?_
         refine zAb hK ?_; clear hK K
         refine wp_ret ?_
         refine zAu ?_; clear hK K
         refine ret1 E rfl rfl ?_
         exact ⟨_, rfl, by first | rfl | (have := zEd hw hfit oZ oZ oZ; simp only [decide_eq_true (show ((xs.length : Int) * 32 - zEc xs.length b.length) < at_ by omega)]) , (S.only (Bs := [O]) sZ).tr⟩
        ·have hb104n := hb104; replace hb104n := Nrm.nrm hb104n
         refine zAe E rfl rfl rfl rfl rfl hb104 rfl dZ (fun w h => zBs E rfl rfl) ?_; clear E a; intro a E
         refine zAe E rfl rfl rfl rfl rfl hb104 rfl dZ (fun w h => zGd E rfl rfl rfl) ?_; clear E a; intro a E
         refine zm E rfl (fun w h => zAi E rfl rfl hb104 rfl) ?_; clear E a; intro a E
         refine zmd E ?_; clear E a; intro a E
         refine zAo E (t := 108) rfl (fun hb108 => ?_) (fun hb108 => ?_)
         ·have hb108n := hb108; replace hb108n := Nrm.nrm hb108n
          refine zBf E rfl rfl rfl rfl rfl hb108 rfl dZ ?_; clear E a; intro a E
          iterate 10 (refine zAl E rfl rfl rfl rfl rfl hb108 rfl dZ ?_; clear E a; intro a E)
          refine zBl E rfl rfl rfl rfl rfl hb108 rfl dZ (S.stab.sub (by first | (simp; done) | (simp +contextual; done) | (simp [*]; done))) ?_; clear E a; intro a E
          refine zBi E rfl rfl rfl rfl rfl hb108 rfl dZ ?_; clear E a; intro a E
          iterate 2 (refine zBf E rfl rfl rfl rfl rfl hb108 rfl dZ ?_; clear E a; intro a E)
          refine zBa E rfl rfl rfl dZ (fun w => zAf E rfl rfl hb108 rfl) ?_; clear E a; intro a E
          refine zBa E rfl rfl rfl dZ (fun w => zBm E rfl rfl) ?_; clear E a; intro a E
          refine zAz ?_
          refine zAb hK ?_; clear hK K
          refine wp_ret ?_
          refine zAu ?_; clear hK K
          refine ret1 E rfl rfl ?_
          exact ⟨_, rfl, by first | rfl | (have := zEd hw hfit oZ oZ oZ; simp only [decide_eq_true (show ((xs.length : Int) * 32 - zEc xs.length b.length) < at_ by omega)]) , (S.only (Bs := [O]) sZ).tr⟩
         ·have hb108n := hb108; replace hb108n := Nrm.nrm hb108n
          refine zCs E rfl rfl rfl rfl rfl hb108 rfl dZ (fun w => zBs E rfl rfl) ?_; clear E a; intro a E
          refine zAe E rfl rfl rfl rfl rfl hb108 rfl dZ (fun w h => zBs E rfl rfl) ?_; clear E a; intro a E
          refine zAe E rfl rfl rfl rfl rfl hb108 rfl dZ (fun w h => zCm E rfl rfl) ?_; clear E a; intro a E
          refine zAe E rfl rfl rfl rfl rfl hb108 rfl dZ (fun w h => by first | exact zAc (q := 3) E rfl rfl rfl | exact zAd (q := 3) E rfl rfl rfl) ?_; clear E a; intro a E
          refine zAe E rfl rfl rfl rfl rfl hb108 rfl dZ (fun w h => by first | exact zCk E rfl rfl rfl (h.one mZ) rfl | exact zAq E rfl rfl rfl (by assumption)) ?_; clear E a; intro a E
          refine zAe E rfl rfl rfl rfl rfl hb108 rfl dZ (fun w h => zBs E rfl rfl) ?_; clear E a; intro a E
          refine zAe E rfl rfl rfl rfl rfl hb108 rfl dZ (fun w h => zCm E rfl rfl) ?_; clear E a; intro a E
          refine zAe E rfl rfl rfl rfl rfl hb108 rfl dZ (fun w h => by first | exact zAc (q := 3) E rfl rfl rfl | exact zAd (q := 3) E rfl rfl rfl) ?_; clear E a; intro a E
          refine zAe E rfl rfl rfl rfl rfl hb108 rfl dZ (fun w h => by first | exact zCk E rfl rfl rfl (h.one mZ) rfl | exact zAq E rfl rfl rfl (by assumption)) ?_; clear E a; intro a E
          refine zAe E rfl rfl rfl rfl rfl hb108 rfl dZ (fun w h => zBs E rfl rfl) ?_; clear E a; intro a E
          refine zAe E rfl rfl rfl rfl rfl hb108 rfl dZ (fun w h => by first | exact zFq E rfl rfl rfl | exact zCx E rfl rfl rfl | exact zCb E rfl rfl rfl) ?_; clear E a; intro a E
          refine zDl E rfl rfl rfl rfl rfl hb108 ?_; refine zCf E rfl dZ rfl Tryz.func9 rfl yZ rfl (zGi t adl xs.length cl _ 32 _ mZ hw oZ _ S.hp) ?_
          rintro v114 w ⟨rfl, hT⟩; clear E a; intro a E
          have S := S.all hT
          refine ⟨S.stab.sub (by first | (simp; done) | (simp +contextual; done) | (simp [*]; done)), ?_⟩
          refine zDd E rfl rfl rfl rfl rfl hb108 ?_; refine zCf E rfl dZ rfl Tryz.func10 rfl yZ rfl (zFn t adl xs.length cl _ 32 _ mZ hw b.length _ S.hp) ?_
          rintro v121 w ⟨rfl, hT⟩; clear E a; intro a E
          have S := S.all hT
          refine zCs E rfl rfl rfl rfl rfl hb108 rfl dZ (fun w => zCt E rfl rfl rfl (w_in oZ)) ?_; clear E a; intro a E
          refine zCs E rfl rfl rfl rfl rfl hb108 rfl dZ (fun w => zFt E rfl rfl rfl) ?_; clear E a; intro a E
          refine zBa E rfl rfl rfl dZ (fun w => zAi E rfl rfl hb108 rfl) ?_; clear E a; intro a E
          refine zBa E rfl rfl rfl dZ (fun w => zBm E rfl rfl) ?_; clear E a; intro a E
          refine zAz ?_
          refine zAb hK ?_; clear hK K
          refine wp_ret ?_
          refine zAu ?_; clear hK K
          refine ret1 E rfl rfl ?_
          exact ⟨_, rfl, by first | rfl | (have := zEd hw hfit oZ oZ oZ; simp only [decide_eq_true (show ((xs.length : Int) * 32 - zEc xs.length b.length) < at_ by omega)]) , (S.only (Bs := [O]) sZ).tr⟩
    ·have hb84n := hb84; replace hb84n := Nrm.nrm hb84n
     iterate 2 (refine zyd E hb84 ?_; clear E a; intro a E)
     refine zp E (zAi E rfl rfl hb84 rfl) ?_; clear E a; intro a E
     refine wpList_nil ?_
     refine zAb hK ?_; clear hK K
     refine zCj E rfl (rfl) ?_
     refine wp_seq_k ?_; intro K hK
     refine zAw S (.ofL [(0, 0), (1, 0), (2, 0), (3, 0), (4, 0), (5, 0), (6, 0), (7, 0), (8, 0), (9, 0), (10, 0), (11, 0), (12, 0), (13, 0), (14, 0), (15, 0), (16, 0), (17, 0), (18, 0), (19, 0), (20, 0), (21, 2), (22, 0), (23, 0), (24, 0), (25, 0), (27, 0), (28, 0), (29, 0), (30, 0), (31, 0), (32, 0), (26, 1), (33, 3), (34, 2), (35, 2), (36, 2), (37, 2)]) yZ yZ ?_
     clear S; intro w S
     iterate 4 (refine zmd E ?_; clear E a; intro a E)
     refine zAo E (t := 91) rfl (fun hb91 => ?_) (fun hb91 => ?_)
     ·have hb91n := hb91; replace hb91n := Nrm.nrm hb91n
      iterate 3 (refine zAl E rfl rfl rfl rfl rfl hb91 rfl dZ ?_; clear E a; intro a E)
      refine zm E rfl (fun w h => zAf E rfl rfl hb91 rfl) ?_; clear E a; intro a E
      refine zmd E ?_; clear E a; intro a E
      iterate 2 (refine zAl E rfl rfl rfl rfl rfl rfl rfl dZ ?_; clear E a; intro a E)
      refine zm E rfl (fun w h => zAf E rfl rfl rfl rfl) ?_; clear E a; intro a E
      refine zmd E ?_; clear E a; intro a E
      iterate 2 (refine zAl E rfl rfl rfl rfl rfl rfl rfl dZ ?_; clear E a; intro a E)
      refine zm E rfl (fun w h => zAf E rfl rfl rfl rfl) ?_; clear E a; intro a E
      refine zmd E ?_; clear E a; intro a E
      iterate 2 (refine zAl E rfl rfl rfl rfl rfl rfl rfl dZ ?_; clear E a; intro a E)
      refine zm E rfl (fun w h => zAf E rfl rfl rfl rfl) ?_; clear E a; intro a E
      refine zmd E ?_; clear E a; intro a E
      refine zBf E rfl rfl rfl rfl rfl rfl rfl dZ ?_; clear E a; intro a E
      iterate 10 (refine zAl E rfl rfl rfl rfl rfl rfl rfl dZ ?_; clear E a; intro a E)
      refine zBl E rfl rfl rfl rfl rfl rfl rfl dZ (S.stab.sub (by first | (simp; done) | (simp +contextual; done) | (simp [*]; done))) ?_; clear E a; intro a E
      refine zBi E rfl rfl rfl rfl rfl rfl rfl dZ ?_; clear E a; intro a E
      iterate 2 (refine zBf E rfl rfl rfl rfl rfl rfl rfl dZ ?_; clear E a; intro a E)
      refine zBa E rfl rfl rfl dZ (fun w => zAf E rfl rfl rfl rfl) ?_; clear E a; intro a E
      refine zBa E rfl rfl rfl dZ (fun w => zBm E rfl rfl) ?_; clear E a; intro a E
      refine zAz ?_
      refine zAb hK ?_; clear hK K
      refine wp_ret ?_
      refine zAu ?_; clear hK K
      refine ret1 E rfl rfl ?_
      exact ⟨_, rfl, by first | rfl | (have := zEd hw hfit oZ oZ oZ; simp only [decide_eq_true (show ((xs.length : Int) * 32 - zEc xs.length b.length) < at_ by omega)]) , (S.only (Bs := [O]) sZ).tr⟩
     ·have hb91n := hb91; replace hb91n := Nrm.nrm hb91n
      refine zAe E rfl rfl rfl rfl rfl hb91 rfl dZ (fun w h => zBs E rfl rfl) ?_; clear E a; intro a E
      refine zAe E rfl rfl rfl rfl rfl hb91 rfl dZ (fun w h => by first | exact zFq E rfl rfl rfl | exact zCx E rfl rfl rfl | exact zCb E rfl rfl rfl) ?_; clear E a; intro a E
      refine zAe E rfl rfl rfl rfl rfl hb91 rfl dZ (fun w h => zFt E rfl rfl rfl) ?_; clear E a; intro a E
      refine zm E rfl (fun w h => zAi E rfl rfl hb91 rfl) ?_; clear E a; intro a E
      refine zmd E ?_; clear E a; intro a E
      refine zAo E (t := 96) rfl (fun hb96 => ?_) (fun hb96 => ?_)
      ·have hb96n := hb96; replace hb96n := Nrm.nrm hb96n
       iterate 2 (refine zAl E rfl rfl rfl rfl rfl hb96 rfl dZ ?_; clear E a; intro a E)
       refine zm E rfl (fun w h => zAf E rfl rfl hb96 rfl) ?_; clear E a; intro a E
       refine zmd E ?_; clear E a; intro a E
       iterate 2 (refine zAl E rfl rfl rfl rfl rfl rfl rfl dZ ?_; clear E a; intro a E)
       refine zm E rfl (fun w h => zAf E rfl rfl rfl rfl) ?_; clear E a; intro a E
       refine zmd E ?_; clear E a; intro a E
       iterate 2 (refine zAl E rfl rfl rfl rfl rfl rfl rfl dZ ?_; clear E a; intro a E)
       refine zm E rfl (fun w h => zAf E rfl rfl rfl rfl) ?_; clear E a; intro a E
       refine zmd E ?_; clear E a; intro a E
       refine zBf E rfl rfl rfl rfl rfl rfl rfl dZ ?_; clear E a; intro a E
       iterate 10 (refine zAl E rfl rfl rfl rfl rfl rfl rfl dZ ?_; clear E a; intro a E)
       refine zBl E rfl rfl rfl rfl rfl rfl rfl dZ (S.stab.sub (by first | (simp; done) | (simp +contextual; done) | (simp [*]; done))) ?_; clear E a; intro a E
       refine zBi E rfl rfl rfl rfl rfl rfl rfl dZ ?_; clear E a; intro a E
       iterate 2 (refine zBf E rfl rfl rfl rfl rfl rfl rfl dZ ?_; clear E a; intro a E)
       refine zBa E rfl rfl rfl dZ (fun w => zAf E rfl rfl rfl rfl) ?_; clear E a; intro a E
       refine zBa E rfl rfl rfl dZ (fun w => zBm E rfl rfl) ?_; clear E a; intro a E
       refine zAz ?_
       refine zAb hK ?_; clear hK K
       refine wp_ret ?_
       refine zAu ?_; clear hK K
       refine ret1 E rfl rfl ?_
       exact ⟨_, rfl, by first | rfl | (have := zEd hw hfit oZ oZ oZ; simp only [decide_eq_true (show ((xs.length : Int) * 32 - zEc xs.length b.length) < at_ by omega)]) , (S.only (Bs := [O]) sZ).tr⟩
      ·have hb96n := hb96; replace hb96n := Nrm.nrm hb96n
       refine zAe E rfl rfl rfl rfl rfl hb96 rfl dZ (fun w h => zBs E rfl rfl) ?_; clear E a; intro a E
       refine zAe E rfl rfl rfl rfl rfl hb96 rfl dZ (fun w h => zGd E rfl rfl rfl) ?_; clear E a; intro a E
       refine zm E rfl (fun w h => zAi E rfl rfl hb96 rfl) ?_; clear E a; intro a E
       refine zmd E ?_; clear E a; intro a E
       refine zAo E (t := 100) rfl (fun hb100 => ?_) (fun hb100 => ?_)
       ·have hb100n := hb100; replace hb100n := Nrm.nrm hb100n
        iterate 2 (refine zAl E rfl rfl rfl rfl rfl hb100 rfl dZ ?_; clear E a; intro a E)
        refine zm E rfl (fun w h => zAf E rfl rfl hb100 rfl) ?_; clear E a; intro a E
        refine zmd E ?_; clear E a; intro a E
        iterate 2 (refine zAl E rfl rfl rfl rfl rfl rfl rfl dZ ?_; clear E a; intro a E)
        refine zm E rfl (fun w h => zAf E rfl rfl rfl rfl) ?_; clear E a; intro a E
        refine zmd E ?_; clear E a; intro a E
        refine zBf E rfl rfl rfl rfl rfl rfl rfl dZ ?_; clear E a; intro a E
        iterate 10 (refine zAl E rfl rfl rfl rfl rfl rfl rfl dZ ?_; clear E a; intro a E)
        refine zBl E rfl rfl rfl rfl rfl rfl rfl dZ (S.stab.sub (by first | (simp; done) | (simp +contextual; done) | (simp [*]; done))) ?_; clear E a; intro a E
        refine zBi E rfl rfl rfl rfl rfl rfl rfl dZ ?_; clear E a; intro a E
        iterate 2 (refine zBf E rfl rfl rfl rfl rfl rfl rfl dZ ?_; clear E a; intro a E)
        refine zBa E rfl rfl rfl dZ (fun w => zAf E rfl rfl rfl rfl) ?_; clear E a; intro a E
        refine zBa E rfl rfl rfl dZ (fun w => zBm E rfl rfl) ?_; clear E a; intro a E
        refine zAz ?_
        refine zAb hK ?_; clear hK K
        refine wp_ret ?_
        refine zAu ?_; clear hK K
        refine ret1 E rfl rfl ?_
        exact ⟨_, rfl, by first | rfl | (have := zEd hw hfit oZ oZ oZ; simp only [decide_eq_true (show ((xs.length : Int) * 32 - zEc xs.length b.length) < at_ by omega)]) , (S.only (Bs := [O]) sZ).tr⟩
       ·have hb100n := hb100; replace hb100n := Nrm.nrm hb100n
        refine zAe E rfl rfl rfl rfl rfl hb100 rfl dZ (fun w h => zBs E rfl rfl) ?_; clear E a; intro a E
        refine zAe E rfl rfl rfl rfl rfl hb100 rfl dZ (fun w h => zFt E rfl rfl rfl) ?_; clear E a; intro a E
        refine zm E rfl (fun w h => zAi E rfl rfl hb100 rfl) ?_; clear E a; intro a E
        refine zmd E ?_; clear E a; intro a E
        refine zAo E (t := 104) rfl (fun hb104 => ?_) (fun hb104 => ?_)
        ·have hb104n := hb104; replace hb104n := Nrm.nrm hb104n
         iterate 2 (refine zAl E rfl rfl rfl rfl rfl hb104 rfl dZ ?_; clear E a; intro a E)
         refine zm E rfl (fun w h => zAf E rfl rfl hb104 rfl) ?_; clear E a; intro a E
         refine zmd E ?_; clear E a; intro a E
         refine zBf E rfl rfl rfl rfl rfl rfl rfl dZ ?_; clear E a; intro a E
         iterate 10 (refine zAl E rfl rfl rfl rfl rfl rfl rfl dZ ?_; clear E a; intro a E)
         refine zBl E rfl rfl rfl rfl rfl rfl rfl dZ (S.stab.sub (by first | (simp; done) | (simp +contextual; done) | (simp [*]; done))) ?_; clear E a; intro a E
         refine zBi E rfl rfl rfl rfl rfl rfl rfl dZ ?_; clear E a; intro a E
         iterate 2 (refine zBf E rfl rfl rfl rfl rfl rfl rfl dZ ?_; clear E a; intro a E)
         refine zBa E rfl rfl rfl dZ (fun w => zAf E rfl rfl rfl rfl) ?_; clear E a; intro a E
         refine zBa E rfl rfl rfl dZ (fun w => zBm E rfl rfl) ?_; clear E a; intro a E
         refine zAz ?_
         refine zAb hK ?_; clear hK K
         refine wp_ret ?_
         refine zAu ?_; clear hK K
         refine ret1 E rfl rfl ?_
         exact ⟨_, rfl, by first | rfl | (have := zEd hw hfit oZ oZ oZ; simp only [decide_eq_true (show ((xs.length : Int) * 32 - zEc xs.length b.length) < at_ by omega)]) , (S.only (Bs := [O]) sZ).tr⟩
        ·have hb104n := hb104; replace hb104n := Nrm.nrm hb104n
         refine zAe E rfl rfl rfl rfl rfl hb104 rfl dZ (fun w h => zBs E rfl rfl) ?_; clear E a; intro a E
         refine zAe E rfl rfl rfl rfl rfl hb104 rfl dZ (fun w h => zGd E rfl rfl rfl) ?_; clear E a; intro a E
         refine zm E rfl (fun w h => zAi E rfl rfl hb104 rfl) ?_; clear E a; intro a E
         refine zmd E ?_; clear E a; intro a E
         refine zAo E (t := 108) rfl (fun hb108 => ?_) (fun hb108 => ?_)
         ·have hb108n := hb108; replace hb108n := Nrm.nrm hb108n
          refine zBf E rfl rfl rfl rfl rfl hb108 rfl dZ ?_; clear E a; intro a E
          iterate 10 (refine zAl E rfl rfl rfl rfl rfl hb108 rfl dZ ?_; clear E a; intro a E)
          refine zBl E rfl rfl rfl rfl rfl hb108 rfl dZ (S.stab.sub (by first | (simp; done) | (simp +contextual; done) | (simp [*]; done))) ?_; clear E a; intro a E
          refine zBi E rfl rfl rfl rfl rfl hb108 rfl dZ ?_; clear E a; intro a E
          iterate 2 (refine zBf E rfl rfl rfl rfl rfl hb108 rfl dZ ?_; clear E a; intro a E)
          refine zBa E rfl rfl rfl dZ (fun w => zAf E rfl rfl hb108 rfl) ?_; clear E a; intro a E
          refine zBa E rfl rfl rfl dZ (fun w => zBm E rfl rfl) ?_; clear E a; intro a E
          refine zAz ?_
          refine zAb hK ?_; clear hK K
          refine wp_ret ?_
          refine zAu ?_; clear hK K
          refine ret1 E rfl rfl ?_
          exact ⟨_, rfl, by first | rfl | (have := zEd hw hfit oZ oZ oZ; simp only [decide_eq_true (show ((xs.length : Int) * 32 - zEc xs.length b.length) < at_ by omega)]) , (S.only (Bs := [O]) sZ).tr⟩
         ·have hb108n := hb108; replace hb108n := Nrm.nrm hb108n
          refine zCs E rfl rfl rfl rfl rfl hb108 rfl dZ (fun w => zBs E rfl rfl) ?_; clear E a; intro a E
          refine zAe E rfl rfl rfl rfl rfl hb108 rfl dZ (fun w h => zBs E rfl rfl) ?_; clear E a; intro a E
          refine zAe E rfl rfl rfl rfl rfl hb108 rfl dZ (fun w h => zCm E rfl rfl) ?_; clear E a; intro a E
          refine zAe E rfl rfl rfl rfl rfl hb108 rfl dZ (fun w h => by first | exact zAc (q := 3) E rfl rfl rfl | exact zAd (q := 3) E rfl rfl rfl) ?_; clear E a; intro a E
          refine zAe E rfl rfl rfl rfl rfl hb108 rfl dZ (fun w h => by first | exact zCk E rfl rfl rfl (h.one mZ) rfl | exact zAq E rfl rfl rfl (by assumption)) ?_; clear E a; intro a E
          refine zAe E rfl rfl rfl rfl rfl hb108 rfl dZ (fun w h => zBs E rfl rfl) ?_; clear E a; intro a E
          refine zAe E rfl rfl rfl rfl rfl hb108 rfl dZ (fun w h => zCm E rfl rfl) ?_; clear E a; intro a E
          refine zAe E rfl rfl rfl rfl rfl hb108 rfl dZ (fun w h => by first | exact zAc (q := 3) E rfl rfl rfl | exact zAd (q := 3) E rfl rfl rfl) ?_; clear E a; intro a E
          refine zAe E rfl rfl rfl rfl rfl hb108 rfl dZ (fun w h => by first | exact zCk E rfl rfl rfl (h.one mZ) rfl | exact zAq E rfl rfl rfl (by assumption)) ?_; clear E a; intro a E
          refine zAe E rfl rfl rfl rfl rfl hb108 rfl dZ (fun w h => zBs E rfl rfl) ?_; clear E a; intro a E
          refine zAe E rfl rfl rfl rfl rfl hb108 rfl dZ (fun w h => by first | exact zFq E rfl rfl rfl | exact zCx E rfl rfl rfl | exact zCb E rfl rfl rfl) ?_; clear E a; intro a E
          refine zDl E rfl rfl rfl rfl rfl hb108 ?_; refine zCf E rfl dZ rfl Tryz.func9 rfl yZ rfl (zGi t adl xs.length cl _ 32 _ mZ hw oZ _ S.hp) ?_
          rintro v114 w ⟨rfl, hT⟩; clear E a; intro a E
          have S := S.all hT
          refine ⟨S.stab.sub (by first | (simp; done) | (simp +contextual; done) | (simp [*]; done)), ?_⟩
          refine zDd E rfl rfl rfl rfl rfl hb108 ?_; refine zCf E rfl dZ rfl Tryz.func10 rfl yZ rfl (zFn t adl xs.length cl _ 32 _ mZ hw b.length _ S.hp) ?_
          rintro v121 w ⟨rfl, hT⟩; clear E a; intro a E
          have S := S.all hT
          refine zCs E rfl rfl rfl rfl rfl hb108 rfl dZ (fun w => zCt E rfl rfl rfl (w_in oZ)) ?_; clear E a; intro a E
          refine zCs E rfl rfl rfl rfl rfl hb108 rfl dZ (fun w => zFt E rfl rfl rfl) ?_; clear E a; intro a E
          refine zBa E rfl rfl rfl dZ (fun w => zAi E rfl rfl hb108 rfl) ?_; clear E a; intro a E
          refine zBa E rfl rfl rfl dZ (fun w => zBm E rfl rfl) ?_; clear E a; intro a E
          refine zAz ?_
          refine zAb hK ?_; clear hK K
          refine wp_ret ?_
          refine zAu ?_; clear hK K
          refine ret1 E rfl rfl ?_
          exact ⟨_, rfl, by first | rfl | (have := zEd hw hfit oZ oZ oZ; simp only [decide_eq_true (show ((xs.length : Int) * 32 - zEc xs.length b.length) < at_ by omega)]) , (S.only (Bs := [O]) sZ).tr⟩
   ·skip
    obtain ⟨hbb, hat0, hN⟩ := fitP_is hw hfit; obtain ⟨an, rfl⟩ : ∃ an : Nat, at_ = an := ⟨at_.toNat, by omega⟩; have hN : an + (layP xs.length b).length ≤ xs.length * 32 := oZ
    iterate 2 (refine zd E ?_; clear E a; intro a E)
    refine zp E (by first | exact zAc (q := 3) E rfl rfl rfl | exact zAd (q := 3) E rfl rfl rfl) ?_; clear E a; intro a E
    iterate 3 (refine zd E ?_; clear E a; intro a E)
    refine zAh E rfl rfl dZ rfl Tryz.func8 rfl yZ rfl (zJi p R C hC xs 0 hU oZ hw hnd Lv hLv t adl cl _ CL hCL oZ hnf an _ b O hb0 9 oZ hfit hbb ⟨hN, (zFz hw hbb).2.1⟩ _ (S.hp.sel sZ)) ?_
    rintro v81 w ⟨rfl, R1, C1, Lv1, hC1, hLv1, hU1, hW1, hLi, hT⟩; clear E a; intro a E
    have S := S.call sZ hT; simp only [List.cons_append, List.nil_append] at S
    refine zd E ?_; clear E a; intro a E
    refine wpList_nil ?_
    refine zAb hK ?_; clear hK K
    iterate 2 (refine wp_seq_k ?_; intro K hK)
    replace E := E.keep (e' := [(1, _), (2, _), (3, _), (4, _), (5, _), (6, _), (7, _), (18, _), (21, _), (22, _), (23, _)]) (kE11 rfl rfl rfl rfl rfl rfl rfl rfl rfl rfl rfl)
    refine zAa ?_
    iterate 3 (refine zd E ?_; clear E a; intro a E)
    refine zBy E (t := 84) rfl ((by have := mt hse.1 hk12; simpa using this)) (fun hb84 => ?_)
    iterate 2 (refine zn E hb84 ?_; clear E a; intro a E)
    refine zp E (zAf E rfl rfl hb84 rfl) ?_; clear E a; intro a E
    refine wpList_nil ?_
    refine zAb hK ?_; clear hK K
    refine zCj E rfl rfl ?_
    refine wp_seq_k ?_; intro K hK
    refine zAw S (.ofL [(0, 0), (1, 0), (2, 0), (3, 0), (4, 0), (5, 0), (6, 0), (7, 0), (8, 0), (9, 0), (10, 0), (11, 0), (12, 0), (13, 0), (14, 0), (15, 0), (16, 0), (17, 0), (18, 0), (19, 0), (20, 0), (21, 2), (22, 0), (23, 0), (24, 0), (25, 0), (27, 0), (28, 0), (29, 0), (30, 0), (31, 0), (32, 0), (26, 1), (33, 3), (34, 2), (35, 2), (36, 2), (37, 2)]) yZ yZ ?_
    clear S; intro w S
    iterate 4 (refine zmd E ?_; clear E a; intro a E)
    refine zAo E (t := 91) rfl (fun hb91 => ?_) (fun hb91 => ?_)
    ·have hb91n := hb91; replace hb91n := Nrm.nrm hb91n
     iterate 3 (refine zAl E rfl rfl rfl rfl rfl hb91 rfl dZ ?_; clear E a; intro a E)
     refine zm E rfl (fun w h => zAf E rfl rfl hb91 rfl) ?_; clear E a; intro a E
     refine zmd E ?_; clear E a; intro a E
     iterate 2 (refine zAl E rfl rfl rfl rfl rfl rfl rfl dZ ?_; clear E a; intro a E)
     refine zm E rfl (fun w h => zAf E rfl rfl rfl rfl) ?_; clear E a; intro a E
     refine zmd E ?_; clear E a; intro a E
     iterate 2 (refine zAl E rfl rfl rfl rfl rfl rfl rfl dZ ?_; clear E a; intro a E)
     refine zm E rfl (fun w h => zAf E rfl rfl rfl rfl) ?_; clear E a; intro a E
     refine zmd E ?_; clear E a; intro a E
     iterate 2 (refine zAl E rfl rfl rfl rfl rfl rfl rfl dZ ?_; clear E a; intro a E)
     refine zm E rfl (fun w h => zAf E rfl rfl rfl rfl) ?_; clear E a; intro a E
     refine zmd E ?_; clear E a; intro a E
     refine zBf E rfl rfl rfl rfl rfl rfl rfl dZ ?_; clear E a; intro a E
     iterate 10 (refine zAl E rfl rfl rfl rfl rfl rfl rfl dZ ?_; clear E a; intro a E)
     refine zBl E rfl rfl rfl rfl rfl rfl rfl dZ (S.stab.sub (by first | (simp; done) | (simp +contextual; done) | (simp [*]; done))) ?_; clear E a; intro a E
     refine zBi E rfl rfl rfl rfl rfl rfl rfl dZ ?_; clear E a; intro a E
     iterate 2 (refine zBf E rfl rfl rfl rfl rfl rfl rfl dZ ?_; clear E a; intro a E)
     refine zBa E rfl rfl rfl dZ (fun w => zAf E rfl rfl rfl rfl) ?_; clear E a; intro a E
     refine zBa E rfl rfl rfl dZ (fun w => zBm E rfl rfl) ?_; clear E a; intro a E
     refine zAz ?_
     refine zAb hK ?_; clear hK K
     refine wp_ret ?_
     refine zAu ?_; clear hK K
     refine ret1 E rfl rfl ?_
     exact ⟨_, rfl, by first | rfl | (exfalso; omega), (S.only (Bs := [O]) sZ).tr⟩
    ·have hb91n := hb91; replace hb91n := Nrm.nrm hb91n
     refine zAe E rfl rfl rfl rfl rfl hb91 rfl dZ (fun w h => zBs E rfl rfl) ?_; clear E a; intro a E
     refine zAe E rfl rfl rfl rfl rfl hb91 rfl dZ (fun w h => by first | exact zFq E rfl rfl rfl | exact zCx E rfl rfl rfl | exact zCb E rfl rfl rfl) ?_; clear E a; intro a E
     refine zAe E rfl rfl rfl rfl rfl hb91 rfl dZ (fun w h => zFt E rfl rfl rfl) ?_; clear E a; intro a E
     refine zm E rfl (fun w h => zAi E rfl rfl hb91 rfl) ?_; clear E a; intro a E
     refine zmd E ?_; clear E a; intro a E
     refine zAo E (t := 96) rfl (fun hb96 => ?_) (fun hb96 => ?_)
     ·have hb96n := hb96; replace hb96n := Nrm.nrm hb96n
      iterate 2 (refine zAl E rfl rfl rfl rfl rfl hb96 rfl dZ ?_; clear E a; intro a E)
      refine zm E rfl (fun w h => zAf E rfl rfl hb96 rfl) ?_; clear E a; intro a E
      refine zmd E ?_; clear E a; intro a E
      iterate 2 (refine zAl E rfl rfl rfl rfl rfl rfl rfl dZ ?_; clear E a; intro a E)
      refine zm E rfl (fun w h => zAf E rfl rfl rfl rfl) ?_; clear E a; intro a E
      refine zmd E ?_; clear E a; intro a E
      iterate 2 (refine zAl E rfl rfl rfl rfl rfl rfl rfl dZ ?_; clear E a; intro a E)
      refine zm E rfl (fun w h => zAf E rfl rfl rfl rfl) ?_; clear E a; intro a E
      refine zmd E ?_; clear E a; intro a E
      refine zBf E rfl rfl rfl rfl rfl rfl rfl dZ ?_; clear E a; intro a E
      iterate 10 (refine zAl E rfl rfl rfl rfl rfl rfl rfl dZ ?_; clear E a; intro a E)
      refine zBl E rfl rfl rfl rfl rfl rfl rfl dZ (S.stab.sub (by first | (simp; done) | (simp +contextual; done) | (simp [*]; done))) ?_; clear E a; intro a E
      refine zBi E rfl rfl rfl rfl rfl rfl rfl dZ ?_; clear E a; intro a E
      iterate 2 (refine zBf E rfl rfl rfl rfl rfl rfl rfl dZ ?_; clear E a; intro a E)
      refine zBa E rfl rfl rfl dZ (fun w => zAf E rfl rfl rfl rfl) ?_; clear E a; intro a E
      refine zBa E rfl rfl rfl dZ (fun w => zBm E rfl rfl) ?_; clear E a; intro a E
      refine zAz ?_
      refine zAb hK ?_; clear hK K
      refine wp_ret ?_
      refine zAu ?_; clear hK K
      refine ret1 E rfl rfl ?_
      exact ⟨_, rfl, by first | rfl | (exfalso; omega), (S.only (Bs := [O]) sZ).tr⟩
     ·have hb96n := hb96; replace hb96n := Nrm.nrm hb96n
      refine zAe E rfl rfl rfl rfl rfl hb96 rfl dZ (fun w h => zBs E rfl rfl) ?_; clear E a; intro a E
      refine zAe E rfl rfl rfl rfl rfl hb96 rfl dZ (fun w h => zGd E rfl rfl rfl) ?_; clear E a; intro a E
      refine zm E rfl (fun w h => zAi E rfl rfl hb96 rfl) ?_; clear E a; intro a E
      refine zmd E ?_; clear E a; intro a E
      refine zAo E (t := 100) rfl (fun hb100 => ?_) (fun hb100 => ?_)
      ·have hb100n := hb100; replace hb100n := Nrm.nrm hb100n
       iterate 2 (refine zAl E rfl rfl rfl rfl rfl hb100 rfl dZ ?_; clear E a; intro a E)
       refine zm E rfl (fun w h => zAf E rfl rfl hb100 rfl) ?_; clear E a; intro a E
       refine zmd E ?_; clear E a; intro a E
       iterate 2 (refine zAl E rfl rfl rfl rfl rfl rfl rfl dZ ?_; clear E a; intro a E)
       refine zm E rfl (fun w h => zAf E rfl rfl rfl rfl) ?_; clear E a; intro a E
       refine zmd E ?_; clear E a; intro a E
       refine zBf E rfl rfl rfl rfl rfl rfl rfl dZ ?_; clear E a; intro a E
       iterate 10 (refine zAl E rfl rfl rfl rfl rfl rfl rfl dZ ?_; clear E a; intro a E)
       refine zBl E rfl rfl rfl rfl rfl rfl rfl dZ (S.stab.sub (by first | (simp; done) | (simp +contextual; done) | (simp [*]; done))) ?_; clear E a; intro a E
       refine zBi E rfl rfl rfl rfl rfl rfl rfl dZ ?_; clear E a; intro a E
       iterate 2 (refine zBf E rfl rfl rfl rfl rfl rfl rfl dZ ?_; clear E a; intro a E)
       refine zBa E rfl rfl rfl dZ (fun w => zAf E rfl rfl rfl rfl) ?_; clear E a; intro a E
       refine zBa E rfl rfl rfl dZ (fun w => zBm E rfl rfl) ?_; clear E a; intro a E
       refine zAz ?_
       refine zAb hK ?_; clear hK K
       refine wp_ret ?_
       refine zAu ?_; clear hK K
       refine ret1 E rfl rfl ?_
       exact ⟨_, rfl, by first | rfl | (exfalso; omega), (S.only (Bs := [O]) sZ).tr⟩
      ·have hb100n := hb100; replace hb100n := Nrm.nrm hb100n
       refine zAe E rfl rfl rfl rfl rfl hb100 rfl dZ (fun w h => zBs E rfl rfl) ?_; clear E a; intro a E
       refine zAe E rfl rfl rfl rfl rfl hb100 rfl dZ (fun w h => zFt E rfl rfl rfl) ?_; clear E a; intro a E
       refine zm E rfl (fun w h => zAi E rfl rfl hb100 rfl) ?_; clear E a; intro a E
       refine zmd E ?_; clear E a; intro a E
       refine zAo E (t := 104) rfl (fun hb104 => ?_) (fun hb104 => ?_)
       ·have hb104n := hb104; replace hb104n := Nrm.nrm hb104n
        iterate 2 (refine zAl E rfl rfl rfl rfl rfl hb104 rfl dZ ?_; clear E a; intro a E)
        refine zm E rfl (fun w h => zAf E rfl rfl hb104 rfl) ?_; clear E a; intro a E
        refine zmd E ?_; clear E a; intro a E
        refine zBf E rfl rfl rfl rfl rfl rfl rfl dZ ?_; clear E a; intro a E
        iterate 10 (refine zAl E rfl rfl rfl rfl rfl rfl rfl dZ ?_; clear E a; intro a E)
        refine zBl E rfl rfl rfl rfl rfl rfl rfl dZ (S.stab.sub (by first | (simp; done) | (simp +contextual; done) | (simp [*]; done))) ?_; clear E a; intro a E
        refine zBi E rfl rfl rfl rfl rfl rfl rfl dZ ?_; clear E a; intro a E
        iterate 2 (refine zBf E rfl rfl rfl rfl rfl rfl rfl dZ ?_; clear E a; intro a E)
        refine zBa E rfl rfl rfl dZ (fun w => zAf E rfl rfl rfl rfl) ?_; clear E a; intro a E
        refine zBa E rfl rfl rfl dZ (fun w => zBm E rfl rfl) ?_; clear E a; intro a E
        refine zAz ?_
        refine zAb hK ?_; clear hK K
        refine wp_ret ?_
        refine zAu ?_; clear hK K
        refine ret1 E rfl rfl ?_
        exact ⟨_, rfl, by first | rfl | (exfalso; omega), (S.only (Bs := [O]) sZ).tr⟩
       ·have hb104n := hb104; replace hb104n := Nrm.nrm hb104n
        refine zAe E rfl rfl rfl rfl rfl hb104 rfl dZ (fun w h => zBs E rfl rfl) ?_; clear E a; intro a E
        refine zAe E rfl rfl rfl rfl rfl hb104 rfl dZ (fun w h => zGd E rfl rfl rfl) ?_; clear E a; intro a E
        refine zm E rfl (fun w h => zAi E rfl rfl hb104 rfl) ?_; clear E a; intro a E
        refine zmd E ?_; clear E a; intro a E
        refine zAo E (t := 108) rfl (fun hb108 => ?_) (fun hb108 => ?_)
        ·have hb108n := hb108; replace hb108n := Nrm.nrm hb108n
         refine zBf E rfl rfl rfl rfl rfl hb108 rfl dZ ?_; clear E a; intro a E
         iterate 10 (refine zAl E rfl rfl rfl rfl rfl hb108 rfl dZ ?_; clear E a; intro a E)
         refine zBl E rfl rfl rfl rfl rfl hb108 rfl dZ (S.stab.sub (by first | (simp; done) | (simp +contextual; done) | (simp [*]; done))) ?_; clear E a; intro a E
         refine zBi E rfl rfl rfl rfl rfl hb108 rfl dZ ?_; clear E a; intro a E
         iterate 2 (refine zBf E rfl rfl rfl rfl rfl hb108 rfl dZ ?_; clear E a; intro a E)
         refine zBa E rfl rfl rfl dZ (fun w => zAf E rfl rfl hb108 rfl) ?_; clear E a; intro a E
         refine zBa E rfl rfl rfl dZ (fun w => zBm E rfl rfl) ?_; clear E a; intro a E
         refine zAz ?_
         refine zAb hK ?_; clear hK K
         refine wp_ret ?_
         refine zAu ?_; clear hK K
         refine ret1 E rfl rfl ?_
         exact ⟨_, rfl, by first | rfl | (exfalso; omega), (S.only (Bs := [O]) sZ).tr⟩
        ·have hb108n := hb108; replace hb108n := Nrm.nrm hb108n
         refine zCs E rfl rfl rfl rfl rfl hb108 rfl dZ (fun w => zBs E rfl rfl) ?_; clear E a; intro a E
         refine zAe E rfl rfl rfl rfl rfl hb108 rfl dZ (fun w h => zBs E rfl rfl) ?_; clear E a; intro a E
         refine zAe E rfl rfl rfl rfl rfl hb108 rfl dZ (fun w h => zCm E rfl rfl) ?_; clear E a; intro a E
         refine zAe E rfl rfl rfl rfl rfl hb108 rfl dZ (fun w h => by first | exact zAc (q := 3) E rfl rfl rfl | exact zAd (q := 3) E rfl rfl rfl) ?_; clear E a; intro a E
         refine zAe E rfl rfl rfl rfl rfl hb108 rfl dZ (fun w h => by first | exact zCk E rfl rfl rfl (h.one mZ) rfl | exact zAq E rfl rfl rfl (by assumption)) ?_; clear E a; intro a E
         refine zAe E rfl rfl rfl rfl rfl hb108 rfl dZ (fun w h => zBs E rfl rfl) ?_; clear E a; intro a E
         refine zAe E rfl rfl rfl rfl rfl hb108 rfl dZ (fun w h => zCm E rfl rfl) ?_; clear E a; intro a E
         refine zAe E rfl rfl rfl rfl rfl hb108 rfl dZ (fun w h => by first | exact zAc (q := 3) E rfl rfl rfl | exact zAd (q := 3) E rfl rfl rfl) ?_; clear E a; intro a E
         refine zAe E rfl rfl rfl rfl rfl hb108 rfl dZ (fun w h => by first | exact zCk E rfl rfl rfl (h.one mZ) rfl | exact zAq E rfl rfl rfl (by assumption)) ?_; clear E a; intro a E
         refine zAe E rfl rfl rfl rfl rfl hb108 rfl dZ (fun w h => zBs E rfl rfl) ?_; clear E a; intro a E
         refine zAe E rfl rfl rfl rfl rfl hb108 rfl dZ (fun w h => by first | exact zFq E rfl rfl rfl | exact zCx E rfl rfl rfl | exact zCb E rfl rfl rfl) ?_; clear E a; intro a E
         refine zDl E rfl rfl rfl rfl rfl hb108 ?_; refine zCf E rfl dZ rfl Tryz.func9 rfl yZ rfl (zGi t adl xs.length cl _ 32 _ mZ hw oZ _ S.hp) ?_
         rintro v114 w ⟨rfl, hT⟩; clear E a; intro a E
         have S := S.all hT
         refine ⟨S.stab.sub (by first | (simp; done) | (simp +contextual; done) | (simp [*]; done)), ?_⟩
         refine zDd E rfl rfl rfl rfl rfl hb108 ?_; refine zCf E rfl dZ rfl Tryz.func10 rfl yZ rfl (zFn t adl xs.length cl _ 32 _ mZ hw b.length _ S.hp) ?_
         rintro v121 w ⟨rfl, hT⟩; clear E a; intro a E
         have S := S.all hT
         refine zCs E rfl rfl rfl rfl rfl hb108 rfl dZ (fun w => zCt E rfl rfl rfl (w_in oZ)) ?_; clear E a; intro a E
         refine zCs E rfl rfl rfl rfl rfl hb108 rfl dZ (fun w => zFt E rfl rfl rfl) ?_; clear E a; intro a E
         refine zBa E rfl rfl rfl dZ (fun w => zAi E rfl rfl hb108 rfl) ?_; clear E a; intro a E
         refine zBa E rfl rfl rfl dZ (fun w => zBm E rfl rfl) ?_; clear E a; intro a E
         refine zAz ?_
         refine zAb hK ?_; clear hK K
         refine wp_ret ?_
         refine zAu ?_; clear hK K
         refine ret1 E rfl rfl ?_
         exact ⟨_, rfl, by first | rfl | (exfalso; omega), (S.only (Bs := [O]) sZ).tr⟩
end Go.Proofs.YtpjidiaekifmbaaGreatDoor
namespace Go.Proofs.YtpjidiaekifmbaaGreatDoor
open Go.Sl
set_option maxRecDepth 10000
abbrev I64 (z : Int) : Prop := -9223372036854775808 ≤ z ∧ z ≤ 9223372036854775807
theorem keeps7_row (W : World) (hL : Lay3 (old W)) (n : Int) (_ : I64 n) (bd : Int) (_ : I64 bd) (nx : Int) (_ : I64 nx) (at_ : Int) (ha : I64 at_) (v : Value) (b : List UInt8) (hO : Rd (old W) 1 v b.length (byt b)) (hl : b.length ≤ 140737488352000) (kind : Int) (_ : I64 kind)
  (vm : Value) (mask : List UInt8) (hO2 : Rd (old W) 1 vm mask.length (byt mask)) (_ : mask.length ≤ 140737488352000) (dead : Bool) (w0 : World) (H : Hp w0 [old W]) :
  Ret Tryz.prog 3 #[.int .i64 n, .int .i64 bd, .int .i64 nx, .int .i64 at_, v, .int .i64 kind, vm, .bool dead] w0 fun u w' => u = .bool true ∧ Trs w0 w' [old W] [old W] :=
 keeps7_walk (old W) hL n bd nx at_ ha v b hO hl kind vm mask hO2 dead w0 H
end Go.Proofs.YtpjidiaekifmbaaGreatDoor
