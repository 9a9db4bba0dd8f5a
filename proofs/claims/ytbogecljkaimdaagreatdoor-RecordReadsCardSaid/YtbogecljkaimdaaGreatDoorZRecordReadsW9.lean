/-
  Texts put together (9).
-/
import Derived.Test.YtbogecljkaimdaaGreatDoorZRecordReadsW8
set_option maxHeartbeats 1000000
namespace Go.Sl
section
variable {P : Program} {a : Act} {o : Oper} {n : Nat} {e : List (Nat × Value)} {x y : Operand} {w : World}
theorem equalIn_str {t : TypeId} (d : Nat) (b c : List UInt8) (ht : P.underlying t = some .string) : (Op.equalIn (d + 1) t (str b) (str c)).run P w = .ok (decide (b = c)) w := by
 have h : ((⟨b.toArray⟩ : ByteArray) == ⟨c.toArray⟩) = decide (b = c) := by
  rw [beq_toListBytes, zIu, zIu, zJl]
 simp [Op.equalIn, run_underlying ht, h]
theorem equal_strs {t t0 : TypeId} {fs : Array Field} (ht : P.underlying t = some (.struct fs)) (hp : P.stoodInHeld t = false)
  (hf : fs.toList.map (fun f => (f.name == "_", f.type, f.offset)) = [(false, t0, 0), (false, t0, 1)]) (u0 : P.underlying t0 = some .string) (p q r s : List UInt8) :
  (Op.equalIn 10000 t (.agg #[str p, str q]) (.agg #[str r, str s])).run P w = .ok (decide (p = r) && decide (q = s)) w := by
 have hS : P.underlying t = some (.struct (P.fieldsOf t)) := by simp [Program.fieldsOf, ht]
 have hfs : P.fieldsOf t = fs := by simp [Program.fieldsOf, ht]
 rw [show (10000 : Nat) = 9999 + 1 from rfl, run_equalIn_agg w 9999 t _ _ hS hp, hfs]
 generalize fs.toList = l at hf
 have hl : l.length = 2 := by simpa using congrArg List.length hf
 match l, hl, hf with
 | [f0, f1], _, hf =>
  simp only [List.map_cons, List.map_nil, List.cons.injEq, Prod.mk.injEq, beq_eq_false_iff_ne, ne_eq, and_true] at hf
  obtain ⟨⟨n0, rfl, o0⟩, n1, h1, o1⟩ := hf
  have a0 : (isAgg f0.type).run P w = .ok false w := by simp [isAgg, run_underlying u0]
  have a1 : (isAgg f1.type).run P w = .ok false w := by rw [h1]; exact a0
  have key : ∀ b c : List UInt8, (Op.equalIn 9999 f0.type (str b) (str c)).run P w = .ok (decide (b = c)) w := fun b c => equalIn_str 9998 b c u0
  simp [Op.eqFields, n0, n1, o0, o1, h1, part, a0, key]
  by_cases h1 : p = r <;> by_cases h2 : q = s <;> simp [h1, h2]
theorem rn_neq_strs (E : Fr a n e) {t t' t0 : TypeId} {fs : Array Field} {p q r s : List UInt8} (ho : o.op = .binOp .neq t x y t') (hx : ev e x = some (.agg #[str p, str q])) (hy : ev e y = some (.agg #[str r, str s]))
  (ht : P.underlying t = some (.struct fs)) (hp : P.stoodInHeld t = false) (hm : P.eqGuardType P.depth t = false)
  (hf : fs.toList.map (fun f => (f.name == "_", f.type, f.offset)) = [(false, t0, 0), (false, t0, 1)]) (u0 : P.underlying t0 = some .string) : zAt P o a w (.bool !(decide (p = r) && decide (q = s))) w := by
 have h1 := run_eqGuard_agg (P := P) w .neq t x y #[str p, str q] #[str r, str s] hm
 have h2 : (binOp .neq t (.agg #[str p, str q]) (.agg #[str r, str s])).run P w = .ok (.bool !(decide (p = r) && decide (q = s))) w := by
  rw [run_neq_struct, equal_strs ht hp hf u0]; rfl
 simp [zAt, execOp, ho, E.eval hx, E.eval hy, h1, h2]
end
theorem take_more {α : Type} {l m : List α} {i : Nat} (h : l.take i = m.take i) (hi : i < l.length) (hj : i < m.length) (he : l[i] = m[i]) : l.take (i + 1) = m.take (i + 1) := by
 rw [← List.take_append_getElem hi, ← List.take_append_getElem hj, h, he]
end Go.Sl
namespace Go.Proofs.YtbogecljkaimdaaGreatDoor
open Go.Sl
set_option maxRecDepth 10000
theorem same_ret {Ca Cb : zAl} {ra rb : Rec} {pa ka da pb kb db : Value} (ha : RecR Ca ra pa ka da) (hq : RecR Cb rb pb kb db) (hsa : Sml ra) (As : List zAl) (ma : Ca ∈ As) (mb : Cb ∈ As) (w0 : World) (H : Hp w0 As) :
  Ret Tryz.prog 13 #[.agg (ra.cells pa ka da).toArray, .agg (rb.cells pb kb db).toArray] w0 fun u w' => ∃ z, u = .bool z ∧ (z = true ↔ ra = rb) ∧ Trs w0 w' As As := by
 have S := St.begin H
 have la := hsa.props
 have lb := hsa.keep
 obtain ⟨a1, c1, rfl⟩ := ha.pr.slice
 obtain ⟨a2, c2, rfl⟩ := ha.kr.slice
 obtain ⟨a3, c3, rfl⟩ := ha.dr.slice
 obtain ⟨a4, c4, rfl⟩ := hq.pr.slice
 obtain ⟨a5, c5, rfl⟩ := hq.kr.slice
 obtain ⟨a6, c6, rfl⟩ := hq.dr.slice
 refine zBt 136 Tryz.func13 rfl rfl dZ ?_; intro a E
 refine wp_seq_k ?_; intro K hK
 refine zAa ?_
 refine zAg rfl (zBx E S rfl rfl dZ rfl rfl ?_); clear E S a; intro a w b2 E S
 refine zAg rfl (zBx E S rfl rfl dZ rfl rfl ?_); clear E S a; intro a w b3 E S
 refine zd E ?_; clear E a; intro a E
 refine wpList_nil ?_
 refine zAb hK ?_; clear hK K
 iterate 2 (refine wp_seq_k ?_; intro K hK)
 refine zAa ?_
 refine zp E (by first | exact zAc (q := 0) E rfl rfl rfl | exact zAd (q := 0) E rfl rfl rfl) ?_; clear E a; intro a E
 refine zd E ?_; clear E a; intro a E
 refine zp E (by first | exact zAc (q := 0) E rfl rfl rfl | exact zAd (q := 0) E rfl rfl rfl) ?_; clear E a; intro a E
 iterate 3 (refine zd E ?_; clear E a; intro a E)
 refine zAj E (t := 12) rfl (fun hb12 => ?_) (fun hb12 => ?_)
 ·have hb12n := hb12; replace hb12n := Nrm.nrm hb12n
  iterate 5 (refine zn E hb12 ?_; clear E a; intro a E)
  refine zp E (zAf E rfl rfl hb12 rfl) ?_; clear E a; intro a E
  refine zd E ?_; clear E a; intro a E
  iterate 5 (refine zn E rfl ?_; clear E a; intro a E)
  refine zp E (zAf E rfl rfl rfl rfl) ?_; clear E a; intro a E
  refine zd E ?_; clear E a; intro a E
  iterate 5 (refine zn E rfl ?_; clear E a; intro a E)
  refine zp E (zAf E rfl rfl rfl rfl) ?_; clear E a; intro a E
  refine zd E ?_; clear E a; intro a E
  iterate 5 (refine zn E rfl ?_; clear E a; intro a E)
  refine zp E (zAf E rfl rfl rfl rfl) ?_; clear E a; intro a E
  refine zd E ?_; clear E a; intro a E
  iterate 5 (refine zn E rfl ?_; clear E a; intro a E)
  refine zp E (zAf E rfl rfl rfl rfl) ?_; clear E a; intro a E
  refine zd E ?_; clear E a; intro a E
  iterate 5 (refine zn E rfl ?_; clear E a; intro a E)
  refine zp E (zAf E rfl rfl rfl rfl) ?_; clear E a; intro a E
  refine wpList_nil ?_
  refine zAb hK ?_; clear hK K
  refine zBo E rfl rfl ?_
  refine wp_seq_k ?_; intro K hK
  replace E := E.keep (e' := [(2, _), (3, _), (4, _)]) (kE3 rfl rfl rfl)
  refine zAa ?_
  refine zd E ?_; clear E a; intro a E
  refine wpList_nil ?_
  refine zAb hK ?_; clear hK K
  refine wp_ret ?_
  refine zAn ?_; clear hK K
  refine ret1 E rfl rfl ?_
  exact ⟨_, rfl, _, rfl, ⟨fun q => Bool.noConfusion q, by rintro rfl; first | exact absurd rfl hb12n | exact absurd rfl hb26n | exact absurd rfl hb33n | exact absurd rfl hb40n | exact absurd rfl hb47n | (simp at hb19; done) | (simp at hb; done)⟩, S.tail2.tr⟩
 ·have hb12n := hb12; replace hb12n := Nrm.nrm hb12n
  refine zy E hb12 (by first | exact zAc (q := 1) E rfl rfl rfl | exact zAd (q := 1) E rfl rfl rfl) ?_; clear E a; intro a E
  refine zyd E hb12 ?_; clear E a; intro a E
  refine zy E hb12 (by first | exact zAc (q := 1) E rfl rfl rfl | exact zAd (q := 1) E rfl rfl rfl) ?_; clear E a; intro a E
  iterate 2 (refine zyd E hb12 ?_; clear E a; intro a E)
  refine zp E (zAe E rfl rfl hb12 rfl) ?_; clear E a; intro a E
  refine zd E ?_; clear E a; intro a E
  refine zAj E (t := 19) rfl (fun hb19 => ?_) (fun hb19 => ?_)
  ·have hb19n := hb19; replace hb19n := Nrm.nrm hb19n
   iterate 5 (refine zn E hb19 ?_; clear E a; intro a E)
   refine zp E (zAf E rfl rfl hb19 rfl) ?_; clear E a; intro a E
   refine zd E ?_; clear E a; intro a E
   iterate 5 (refine zn E rfl ?_; clear E a; intro a E)
   refine zp E (zAf E rfl rfl rfl rfl) ?_; clear E a; intro a E
   refine zd E ?_; clear E a; intro a E
   iterate 5 (refine zn E rfl ?_; clear E a; intro a E)
   refine zp E (zAf E rfl rfl rfl rfl) ?_; clear E a; intro a E
   refine zd E ?_; clear E a; intro a E
   iterate 5 (refine zn E rfl ?_; clear E a; intro a E)
   refine zp E (zAf E rfl rfl rfl rfl) ?_; clear E a; intro a E
   refine zd E ?_; clear E a; intro a E
   iterate 5 (refine zn E rfl ?_; clear E a; intro a E)
   refine zp E (zAf E rfl rfl rfl rfl) ?_; clear E a; intro a E
   refine wpList_nil ?_
   refine zAb hK ?_; clear hK K
   refine zBo E rfl rfl ?_
   refine wp_seq_k ?_; intro K hK
   replace E := E.keep (e' := [(2, _), (3, _), (4, _)]) (kE3 rfl rfl rfl)
   refine zAa ?_
   refine zd E ?_; clear E a; intro a E
   refine wpList_nil ?_
   refine zAb hK ?_; clear hK K
   refine wp_ret ?_
   refine zAn ?_; clear hK K
   refine ret1 E rfl rfl ?_
   exact ⟨_, rfl, _, rfl, ⟨fun q => Bool.noConfusion q, by rintro rfl; first | exact absurd rfl hb12n | exact absurd rfl hb26n | exact absurd rfl hb33n | exact absurd rfl hb40n | exact absurd rfl hb47n | (simp at hb19; done) | (simp at hb; done)⟩, S.tail2.tr⟩
  ·have hb19n := hb19; replace hb19n := Nrm.nrm hb19n
   refine zy E hb19 (by first | exact zAc (q := 2) E rfl rfl rfl | exact zAd (q := 2) E rfl rfl rfl) ?_; clear E a; intro a E
   refine zyd E hb19 ?_; clear E a; intro a E
   refine zy E hb19 (by first | exact zAc (q := 2) E rfl rfl rfl | exact zAd (q := 2) E rfl rfl rfl) ?_; clear E a; intro a E
   iterate 2 (refine zyd E hb19 ?_; clear E a; intro a E)
   refine zp E (zAe E rfl rfl hb19 rfl) ?_; clear E a; intro a E
   refine zd E ?_; clear E a; intro a E
   refine zAj E (t := 26) rfl (fun hb26 => ?_) (fun hb26 => ?_)
   ·have hb26n := hb26; replace hb26n := Nrm.nrm hb26n
    iterate 5 (refine zn E hb26 ?_; clear E a; intro a E)
    refine zp E (zAf E rfl rfl hb26 rfl) ?_; clear E a; intro a E
    refine zd E ?_; clear E a; intro a E
    iterate 5 (refine zn E rfl ?_; clear E a; intro a E)
    refine zp E (zAf E rfl rfl rfl rfl) ?_; clear E a; intro a E
    refine zd E ?_; clear E a; intro a E
    iterate 5 (refine zn E rfl ?_; clear E a; intro a E)
    refine zp E (zAf E rfl rfl rfl rfl) ?_; clear E a; intro a E
    refine zd E ?_; clear E a; intro a E
    iterate 5 (refine zn E rfl ?_; clear E a; intro a E)
    refine zp E (zAf E rfl rfl rfl rfl) ?_; clear E a; intro a E
    refine wpList_nil ?_
    refine zAb hK ?_; clear hK K
    refine zBo E rfl rfl ?_
    refine wp_seq_k ?_; intro K hK
    replace E := E.keep (e' := [(2, _), (3, _), (4, _)]) (kE3 rfl rfl rfl)
    refine zAa ?_
    refine zd E ?_; clear E a; intro a E
    refine wpList_nil ?_
    refine zAb hK ?_; clear hK K
    refine wp_ret ?_
    refine zAn ?_; clear hK K
    refine ret1 E rfl rfl ?_
    exact ⟨_, rfl, _, rfl, ⟨fun q => Bool.noConfusion q, by rintro rfl; first | exact absurd rfl hb12n | exact absurd rfl hb26n | exact absurd rfl hb33n | exact absurd rfl hb40n | exact absurd rfl hb47n | (simp at hb19; done) | (simp at hb; done)⟩, S.tail2.tr⟩
   ·have hb26n := hb26; replace hb26n := Nrm.nrm hb26n
    refine zy E hb26 (by first | exact zAc (q := 3) E rfl rfl rfl | exact zAd (q := 3) E rfl rfl rfl) ?_; clear E a; intro a E
    refine zyd E hb26 ?_; clear E a; intro a E
    refine zy E hb26 (by first | exact zAc (q := 3) E rfl rfl rfl | exact zAd (q := 3) E rfl rfl rfl) ?_; clear E a; intro a E
    iterate 2 (refine zyd E hb26 ?_; clear E a; intro a E)
    refine zp E (zAe E rfl rfl hb26 rfl) ?_; clear E a; intro a E
    refine zd E ?_; clear E a; intro a E
    refine zAj E (t := 33) rfl (fun hb33 => ?_) (fun hb33 => ?_)
    ·have hb33n := hb33; replace hb33n := Nrm.nrm hb33n
     iterate 5 (refine zn E hb33 ?_; clear E a; intro a E)
     refine zp E (zAf E rfl rfl hb33 rfl) ?_; clear E a; intro a E
     refine zd E ?_; clear E a; intro a E
     iterate 5 (refine zn E rfl ?_; clear E a; intro a E)
     refine zp E (zAf E rfl rfl rfl rfl) ?_; clear E a; intro a E
     refine zd E ?_; clear E a; intro a E
     iterate 5 (refine zn E rfl ?_; clear E a; intro a E)
     refine zp E (zAf E rfl rfl rfl rfl) ?_; clear E a; intro a E
     refine wpList_nil ?_
     refine zAb hK ?_; clear hK K
     refine zBo E rfl rfl ?_
     refine wp_seq_k ?_; intro K hK
     replace E := E.keep (e' := [(2, _), (3, _), (4, _)]) (kE3 rfl rfl rfl)
     refine zAa ?_
     refine zd E ?_; clear E a; intro a E
     refine wpList_nil ?_
     refine zAb hK ?_; clear hK K
     refine wp_ret ?_
     refine zAn ?_; clear hK K
     refine ret1 E rfl rfl ?_
     exact ⟨_, rfl, _, rfl, ⟨fun q => Bool.noConfusion q, by rintro rfl; first | exact absurd rfl hb12n | exact absurd rfl hb26n | exact absurd rfl hb33n | exact absurd rfl hb40n | exact absurd rfl hb47n | (simp at hb19; done) | (simp at hb; done)⟩, S.tail2.tr⟩
    ·have hb33n := hb33; replace hb33n := Nrm.nrm hb33n
     refine zy E hb33 (by first | exact zAc (q := 4) E rfl rfl rfl | exact zAd (q := 4) E rfl rfl rfl) ?_; clear E a; intro a E
     refine zyd E hb33 ?_; clear E a; intro a E
     refine zy E hb33 (by first | exact zAc (q := 4) E rfl rfl rfl | exact zAd (q := 4) E rfl rfl rfl) ?_; clear E a; intro a E
     iterate 2 (refine zyd E hb33 ?_; clear E a; intro a E)
     refine zp E (zAe E rfl rfl hb33 rfl) ?_; clear E a; intro a E
     refine zd E ?_; clear E a; intro a E
     refine zAj E (t := 40) rfl (fun hb40 => ?_) (fun hb40 => ?_)
     ·have hb40n := hb40; replace hb40n := Nrm.nrm hb40n
      iterate 5 (refine zn E hb40 ?_; clear E a; intro a E)
      refine zp E (zAf E rfl rfl hb40 rfl) ?_; clear E a; intro a E
      refine zd E ?_; clear E a; intro a E
      iterate 5 (refine zn E rfl ?_; clear E a; intro a E)
      refine zp E (zAf E rfl rfl rfl rfl) ?_; clear E a; intro a E
      refine wpList_nil ?_
      refine zAb hK ?_; clear hK K
      refine zBo E rfl rfl ?_
      refine wp_seq_k ?_; intro K hK
      replace E := E.keep (e' := [(2, _), (3, _), (4, _)]) (kE3 rfl rfl rfl)
      refine zAa ?_
      refine zd E ?_; clear E a; intro a E
      refine wpList_nil ?_
      refine zAb hK ?_; clear hK K
      refine wp_ret ?_
      refine zAn ?_; clear hK K
      refine ret1 E rfl rfl ?_
      exact ⟨_, rfl, _, rfl, ⟨fun q => Bool.noConfusion q, by rintro rfl; first | exact absurd rfl hb12n | exact absurd rfl hb26n | exact absurd rfl hb33n | exact absurd rfl hb40n | exact absurd rfl hb47n | (simp at hb19; done) | (simp at hb; done)⟩, S.tail2.tr⟩
     ·have hb40n := hb40; replace hb40n := Nrm.nrm hb40n
      refine zy E hb40 (by first | exact zAc (q := 5) E rfl rfl rfl | exact zAd (q := 5) E rfl rfl rfl) ?_; clear E a; intro a E
      refine zyd E hb40 ?_; clear E a; intro a E
      refine zy E hb40 (by first | exact zAc (q := 5) E rfl rfl rfl | exact zAd (q := 5) E rfl rfl rfl) ?_; clear E a; intro a E
      iterate 2 (refine zyd E hb40 ?_; clear E a; intro a E)
      refine zp E (zAe E rfl rfl hb40 rfl) ?_; clear E a; intro a E
      refine zd E ?_; clear E a; intro a E
      refine zAj E (t := 47) rfl (fun hb47 => ?_) (fun hb47 => ?_)
      ·have hb47n := hb47; replace hb47n := Nrm.nrm hb47n
       iterate 5 (refine zn E hb47 ?_; clear E a; intro a E)
       refine zp E (zAf E rfl rfl hb47 rfl) ?_; clear E a; intro a E
       refine wpList_nil ?_
       refine zAb hK ?_; clear hK K
       refine zBo E rfl rfl ?_
       refine wp_seq_k ?_; intro K hK
       replace E := E.keep (e' := [(2, _), (3, _), (4, _)]) (kE3 rfl rfl rfl)
       refine zAa ?_
       refine zd E ?_; clear E a; intro a E
       refine wpList_nil ?_
       refine zAb hK ?_; clear hK K
       refine wp_ret ?_
       refine zAn ?_; clear hK K
       refine ret1 E rfl rfl ?_
       exact ⟨_, rfl, _, rfl, ⟨fun q => Bool.noConfusion q, by rintro rfl; first | exact absurd rfl hb12n | exact absurd rfl hb26n | exact absurd rfl hb33n | exact absurd rfl hb40n | exact absurd rfl hb47n | (simp at hb19; done) | (simp at hb; done)⟩, S.tail2.tr⟩
      ·have hb47n := hb47; replace hb47n := Nrm.nrm hb47n
       refine zy E hb47 (by first | exact zAc (q := 6) E rfl rfl rfl | exact zAd (q := 6) E rfl rfl rfl) ?_; clear E a; intro a E
       refine zyd E hb47 ?_; clear E a; intro a E
       refine zy E hb47 (by first | exact zAc (q := 6) E rfl rfl rfl | exact zAd (q := 6) E rfl rfl rfl) ?_; clear E a; intro a E
       iterate 2 (refine zyd E hb47 ?_; clear E a; intro a E)
       refine zp E (zAe E rfl rfl hb47 rfl) ?_; clear E a; intro a E
       refine wpList_nil ?_
       refine zAb hK ?_; clear hK K
       refine zAs E rfl (fun hb => ?_) (fun hb => ?_)
       ·replace hb := Nrm.nrm hb
        refine wp_seq_k ?_; intro K hK
        replace E := E.keep (e' := [(2, _), (3, _), (4, _)]) (kE3 rfl rfl rfl)
        refine zAa ?_
        refine zd E ?_; clear E a; intro a E
        refine wpList_nil ?_
        refine zAb hK ?_; clear hK K
        refine wp_ret ?_
        refine zAn ?_; clear hK K
        refine ret1 E rfl rfl ?_
        exact ⟨_, rfl, _, rfl, ⟨fun q => Bool.noConfusion q, by rintro rfl; first | exact absurd rfl hb12n | exact absurd rfl hb26n | exact absurd rfl hb33n | exact absurd rfl hb40n | exact absurd rfl hb47n | (simp at hb19; done) | (simp at hb; done)⟩, S.tail2.tr⟩
       ·replace hb := Nrm.nrm hb
        have hsn := hb
        refine wp_skip ?_
        refine zAb hK ?_; clear hK K
        iterate 2 (refine wp_seq_k ?_; intro K hK)
        replace E := E.keep (e' := [(2, _), (3, _), (4, _)]) (kE3 rfl rfl rfl)
        refine zAa ?_
        refine zp E (by first | exact zAc (q := 8) E rfl rfl rfl | exact zAd (q := 8) E rfl rfl rfl) ?_; clear E a; intro a E
        refine zd E ?_; clear E a; intro a E
        refine zp E (by first | exact zAc (q := 8) E rfl rfl rfl | exact zAd (q := 8) E rfl rfl rfl) ?_; clear E a; intro a E
        iterate 3 (refine zd E ?_; clear E a; intro a E)
        refine zAj E (t := 59) rfl (fun hb59 => ?_) (fun hb59 => ?_)
        ·have hb59n := hb59; replace hb59n := Nrm.nrm hb59n
         iterate 5 (refine zn E hb59 ?_; clear E a; intro a E)
         refine zp E (zAf E rfl rfl hb59 rfl) ?_; clear E a; intro a E
         refine zd E ?_; clear E a; intro a E
         iterate 5 (refine zn E rfl ?_; clear E a; intro a E)
         refine zp E (zAf E rfl rfl rfl rfl) ?_; clear E a; intro a E
         refine zd E ?_; clear E a; intro a E
         iterate 7 (refine zn E rfl ?_; clear E a; intro a E)
         refine zp E (zAf E rfl rfl rfl rfl) ?_; clear E a; intro a E
         refine zd E ?_; clear E a; intro a E
         iterate 7 (refine zn E rfl ?_; clear E a; intro a E)
         refine zp E (zAf E rfl rfl rfl rfl) ?_; clear E a; intro a E
         refine zd E ?_; clear E a; intro a E
         iterate 7 (refine zn E rfl ?_; clear E a; intro a E)
         refine zp E (zAf E rfl rfl rfl rfl) ?_; clear E a; intro a E
         refine wpList_nil ?_
         refine zAb hK ?_; clear hK K
         refine zBo E rfl rfl ?_
         refine wp_seq_k ?_; intro K hK
         replace E := E.keep (e' := [(2, _), (3, _), (4, _)]) (kE3 rfl rfl rfl)
         refine zAa ?_
         refine zd E ?_; clear E a; intro a E
         refine wpList_nil ?_
         refine zAb hK ?_; clear hK K
         refine wp_ret ?_
         refine zAn ?_; clear hK K
         refine ret1 E rfl rfl ?_
         exact ⟨_, rfl, _, rfl, ⟨fun q => Bool.noConfusion q, by rintro rfl; first | exact absurd rfl hb59n | exact absurd rfl hb66n | exact absurd rfl hb73n | exact absurd rfl hb82n | exact absurd rfl hb91n | (simp at hb; done)⟩, S.tail2.tr⟩
        ·have hb59n := hb59; replace hb59n := Nrm.nrm hb59n
         refine zy E hb59 (by first | exact zAc (q := 9) E rfl rfl rfl | exact zAd (q := 9) E rfl rfl rfl) ?_; clear E a; intro a E
         refine zyd E hb59 ?_; clear E a; intro a E
         refine zy E hb59 (by first | exact zAc (q := 9) E rfl rfl rfl | exact zAd (q := 9) E rfl rfl rfl) ?_; clear E a; intro a E
         iterate 2 (refine zyd E hb59 ?_; clear E a; intro a E)
         refine zp E (zAe E rfl rfl hb59 rfl) ?_; clear E a; intro a E
         refine zd E ?_; clear E a; intro a E
         refine zAj E (t := 66) rfl (fun hb66 => ?_) (fun hb66 => ?_)
         ·have hb66n := hb66; replace hb66n := Nrm.nrm hb66n
          iterate 5 (refine zn E hb66 ?_; clear E a; intro a E)
          refine zp E (zAf E rfl rfl hb66 rfl) ?_; clear E a; intro a E
          refine zd E ?_; clear E a; intro a E
          iterate 7 (refine zn E rfl ?_; clear E a; intro a E)
          refine zp E (zAf E rfl rfl rfl rfl) ?_; clear E a; intro a E
          refine zd E ?_; clear E a; intro a E
          iterate 7 (refine zn E rfl ?_; clear E a; intro a E)
          refine zp E (zAf E rfl rfl rfl rfl) ?_; clear E a; intro a E
          refine zd E ?_; clear E a; intro a E
          iterate 7 (refine zn E rfl ?_; clear E a; intro a E)
          refine zp E (zAf E rfl rfl rfl rfl) ?_; clear E a; intro a E
          refine wpList_nil ?_
          refine zAb hK ?_; clear hK K
          refine zBo E rfl rfl ?_
          refine wp_seq_k ?_; intro K hK
          replace E := E.keep (e' := [(2, _), (3, _), (4, _)]) (kE3 rfl rfl rfl)
          refine zAa ?_
          refine zd E ?_; clear E a; intro a E
          refine wpList_nil ?_
          refine zAb hK ?_; clear hK K
          refine wp_ret ?_
          refine zAn ?_; clear hK K
          refine ret1 E rfl rfl ?_
          exact ⟨_, rfl, _, rfl, ⟨fun q => Bool.noConfusion q, by rintro rfl; first | exact absurd rfl hb59n | exact absurd rfl hb66n | exact absurd rfl hb73n | exact absurd rfl hb82n | exact absurd rfl hb91n | (simp at hb; done)⟩, S.tail2.tr⟩
         ·have hb66n := hb66; replace hb66n := Nrm.nrm hb66n
          refine zy E hb66 (by first | exact zAc (q := 10) E rfl rfl rfl | exact zAd (q := 10) E rfl rfl rfl) ?_; clear E a; intro a E
          refine zyd E hb66 ?_; clear E a; intro a E
          refine zy E hb66 (by first | exact zAc (q := 10) E rfl rfl rfl | exact zAd (q := 10) E rfl rfl rfl) ?_; clear E a; intro a E
          iterate 2 (refine zyd E hb66 ?_; clear E a; intro a E)
          refine zp E (zAe E rfl rfl hb66 rfl) ?_; clear E a; intro a E
          refine zd E ?_; clear E a; intro a E
          refine zAj E (t := 73) rfl (fun hb73 => ?_) (fun hb73 => ?_)
          ·have hb73n := hb73; replace hb73n := Nrm.nrm hb73n
           iterate 7 (refine zn E hb73 ?_; clear E a; intro a E)
           refine zp E (zAf E rfl rfl hb73 rfl) ?_; clear E a; intro a E
           refine zd E ?_; clear E a; intro a E
           iterate 7 (refine zn E rfl ?_; clear E a; intro a E)
           refine zp E (zAf E rfl rfl rfl rfl) ?_; clear E a; intro a E
           refine zd E ?_; clear E a; intro a E
           iterate 7 (refine zn E rfl ?_; clear E a; intro a E)
           refine zp E (zAf E rfl rfl rfl rfl) ?_; clear E a; intro a E
           refine wpList_nil ?_
           refine zAb hK ?_; clear hK K
           refine zBo E rfl rfl ?_
           refine wp_seq_k ?_; intro K hK
           replace E := E.keep (e' := [(2, _), (3, _), (4, _)]) (kE3 rfl rfl rfl)
           refine zAa ?_
           refine zd E ?_; clear E a; intro a E
           refine wpList_nil ?_
           refine zAb hK ?_; clear hK K
           refine wp_ret ?_
           refine zAn ?_; clear hK K
           refine ret1 E rfl rfl ?_
           exact ⟨_, rfl, _, rfl, ⟨fun q => Bool.noConfusion q, by rintro rfl; first | exact absurd rfl hb59n | exact absurd rfl hb66n | exact absurd rfl hb73n | exact absurd rfl hb82n | exact absurd rfl hb91n | (simp at hb; done)⟩, S.tail2.tr⟩
          ·have hb73n := hb73; replace hb73n := Nrm.nrm hb73n
           refine zy E hb73 (by first | exact zAc (q := 7) E rfl rfl rfl | exact zAd (q := 7) E rfl rfl rfl) ?_; clear E a; intro a E
           iterate 2 (refine zyd E hb73 ?_; clear E a; intro a E)
           refine zy E hb73 (by first | exact zAc (q := 7) E rfl rfl rfl | exact zAd (q := 7) E rfl rfl rfl) ?_; clear E a; intro a E
           iterate 3 (refine zyd E hb73 ?_; clear E a; intro a E)
           refine zp E (zAe E rfl rfl hb73 rfl) ?_; clear E a; intro a E
           refine zd E ?_; clear E a; intro a E
           refine zAj E (t := 82) rfl (fun hb82 => ?_) (fun hb82 => ?_)
           ·have hb82n := hb82; replace hb82n := Nrm.nrm hb82n
            iterate 7 (refine zn E hb82 ?_; clear E a; intro a E)
            refine zp E (zAf E rfl rfl hb82 rfl) ?_; clear E a; intro a E
            refine zd E ?_; clear E a; intro a E
            iterate 7 (refine zn E rfl ?_; clear E a; intro a E)
            refine zp E (zAf E rfl rfl rfl rfl) ?_; clear E a; intro a E
            refine wpList_nil ?_
            refine zAb hK ?_; clear hK K
            refine zBo E rfl rfl ?_
            refine wp_seq_k ?_; intro K hK
            replace E := E.keep (e' := [(2, _), (3, _), (4, _)]) (kE3 rfl rfl rfl)
            refine zAa ?_
            refine zd E ?_; clear E a; intro a E
            refine wpList_nil ?_
            refine zAb hK ?_; clear hK K
            refine wp_ret ?_
            refine zAn ?_; clear hK K
            refine ret1 E rfl rfl ?_
            exact ⟨_, rfl, _, rfl, ⟨fun q => Bool.noConfusion q, by rintro rfl; first | exact absurd rfl hb59n | exact absurd rfl hb66n | exact absurd rfl hb73n | exact absurd rfl hb82n | exact absurd rfl hb91n | (simp at hb; done)⟩, S.tail2.tr⟩
           ·have hb82n := hb82; replace hb82n := Nrm.nrm hb82n
            refine zy E hb82 (by first | exact zAc (q := 11) E rfl rfl rfl | exact zAd (q := 11) E rfl rfl rfl) ?_; clear E a; intro a E
            iterate 2 (refine zyd E hb82 ?_; clear E a; intro a E)
            refine zy E hb82 (by first | exact zAc (q := 11) E rfl rfl rfl | exact zAd (q := 11) E rfl rfl rfl) ?_; clear E a; intro a E
            iterate 3 (refine zyd E hb82 ?_; clear E a; intro a E)
            refine zp E (zAe E rfl rfl hb82 rfl) ?_; clear E a; intro a E
            refine zd E ?_; clear E a; intro a E
            refine zAj E (t := 91) rfl (fun hb91 => ?_) (fun hb91 => ?_)
            ·have hb91n := hb91; replace hb91n := Nrm.nrm hb91n
             iterate 7 (refine zn E hb91 ?_; clear E a; intro a E)
             refine zp E (zAf E rfl rfl hb91 rfl) ?_; clear E a; intro a E
             refine wpList_nil ?_
             refine zAb hK ?_; clear hK K
             refine zBo E rfl rfl ?_
             refine wp_seq_k ?_; intro K hK
             replace E := E.keep (e' := [(2, _), (3, _), (4, _)]) (kE3 rfl rfl rfl)
             refine zAa ?_
             refine zd E ?_; clear E a; intro a E
             refine wpList_nil ?_
             refine zAb hK ?_; clear hK K
             refine wp_ret ?_
             refine zAn ?_; clear hK K
             refine ret1 E rfl rfl ?_
             exact ⟨_, rfl, _, rfl, ⟨fun q => Bool.noConfusion q, by rintro rfl; first | exact absurd rfl hb59n | exact absurd rfl hb66n | exact absurd rfl hb73n | exact absurd rfl hb82n | exact absurd rfl hb91n | (simp at hb; done)⟩, S.tail2.tr⟩
            ·have hb91n := hb91; replace hb91n := Nrm.nrm hb91n
             refine zy E hb91 (by first | exact zAc (q := 12) E rfl rfl rfl | exact zAd (q := 12) E rfl rfl rfl) ?_; clear E a; intro a E
             refine zyd E hb91 ?_; clear E a; intro a E
             refine zy E hb91 (zBh E rfl rfl rfl rfl rfl ha.dr (S.stab.at (List.Mem.tail _ (List.Mem.tail _ ma)))) ?_; clear E a; intro a E
             refine zy E hb91 (by first | exact zAc (q := 12) E rfl rfl rfl | exact zAd (q := 12) E rfl rfl rfl) ?_; clear E a; intro a E
             refine zyd E hb91 ?_; clear E a; intro a E
             refine zy E hb91 (zBh E rfl rfl rfl rfl rfl hq.dr (S.stab.at (List.Mem.tail _ (List.Mem.tail _ mb)))) ?_; clear E a; intro a E
             refine zyd E hb91 ?_; clear E a; intro a E
             refine zp E (zAe E rfl rfl hb91 rfl) ?_; clear E a; intro a E
             refine wpList_nil ?_
             refine zAb hK ?_; clear hK K
             refine zAs E rfl (fun hb => ?_) (fun hb => ?_)
             ·replace hb := Nrm.nrm hb
              refine wp_seq_k ?_; intro K hK
              replace E := E.keep (e' := [(2, _), (3, _), (4, _)]) (kE3 rfl rfl rfl)
              refine zAa ?_
              refine zd E ?_; clear E a; intro a E
              refine wpList_nil ?_
              refine zAb hK ?_; clear hK K
              refine wp_ret ?_
              refine zAn ?_; clear hK K
              refine ret1 E rfl rfl ?_
              exact ⟨_, rfl, _, rfl, ⟨fun q => Bool.noConfusion q, by rintro rfl; first | exact absurd rfl hb59n | exact absurd rfl hb66n | exact absurd rfl hb73n | exact absurd rfl hb82n | exact absurd rfl hb91n | (simp at hb; done)⟩, S.tail2.tr⟩
             ·replace hb := Nrm.nrm hb
              have hdt := hb
              refine wp_skip ?_
              refine zAb hK ?_; clear hK K
              iterate 2 (refine wp_seq_k ?_; intro K hK)
              replace E := E.keep (e' := [(2, _), (3, _), (4, _)]) (kE3 rfl rfl rfl)
              have e2 : ra.name = rb.name := by simpa using hb19
              have e7 : ra.snap = rb.snap := by simpa using hsn
              have e13 : ra.data = rb.data := by simpa using hdt
              have e8 : ra.props.length = rb.props.length := by omega
              have e12 : ra.keep.length = rb.keep.length := by omega
              refine zAa ?_
              refine zd E ?_; clear E a; intro a E
              refine wpList_nil ?_
              refine zAb hK ?_; clear hK K
              refine wp_block ?_
              refine wp_loop_ghost (fun (m : Nat) (a : Act) (w' : World) => ∃ i : Nat, m = ra.props.length - i ∧ i ≤ ra.props.length ∧ ra.props.take i = rb.props.take i ∧ St w0 As w' ([(b3, cel (rb.cells (.slice a4 rb.props.length c4) (.slice a5 rb.keep.length c5) (.slice a6 rb.data.length c6)) 26)] :: [(b2, cel (ra.cells (.slice a1 ra.props.length c1) (.slice a2 ra.keep.length c2) (.slice a3 ra.data.length c3)) 26)] :: As) ∧ Fr a 136 [(2, ptr b2), (3, ptr b3), (4, .bool false), (5, .int .i64 i)]) (ra.props.length) ?_ ?_
              ·exact ⟨0, by omega, by omega, rfl, S, E.keep (kE4 rfl rfl rfl rfl)⟩
              clear E; clear a; (try clear S); rintro m a w ⟨i, rfl, hi, he, S, E⟩
              iterate 2 (refine wp_seq_k ?_; intro K hK)
              refine zAa ?_
              refine zd E ?_; clear E a; intro a E
              refine zp E (by first | exact zAc (q := 7) E rfl rfl rfl | exact zAd (q := 7) E rfl rfl rfl) ?_; clear E a; intro a E
              iterate 3 (refine zd E ?_; clear E a; intro a E)
              refine wpList_nil ?_
              refine zAb hK ?_; clear hK K
              refine zAs E rfl (fun hb => ?_) (fun hb => ?_)
              ·replace hb := Nrm.nrm hb
               refine wp_skip ?_
               refine zAb hK ?_; clear hK K
               refine wp_seq_k ?_; intro K hK
               refine wp_block ?_
               refine wp_seq_k ?_; intro K hK
               have hil : i < ra.props.length := by omega
               have hil2 : i < rb.props.length := by omega
               obtain ⟨q1, o1, rfl⟩ := ha.pr.addr oZ
               obtain ⟨q2, o2, rfl⟩ := hq.pr.addr oZ
               obtain ⟨x1, hx1⟩ : ∃ x, x = ra.props[i] := ⟨_, rfl⟩
               obtain ⟨x2, hx2⟩ : ∃ x, x = rb.props[i] := ⟨_, rfl⟩
               have hl1 := ha.pr.elem (lay := Prp.lay) Prp.lay_len (S.stab.at (List.Mem.tail _ (List.Mem.tail _ ma))) hil
               have hl2 := hq.pr.elem (lay := Prp.lay) Prp.lay_len (S.stab.at (List.Mem.tail _ (List.Mem.tail _ mb))) hil2
               rw [← hx1] at hl1
               rw [← hx2] at hl2
               refine zBg S (.ofL [(0, 0), (1, 0), (2, 0), (3, 0), (4, 0), (5, 0), (6, 0), (7, 0), (8, 0), (9, 0), (10, 0)]) yZ yZ ?_
               clear S; intro w S
               refine zm E rfl (fun w h => by first | exact zAc (q := 7) E rfl rfl rfl | exact zAd (q := 7) E rfl rfl rfl) ?_; clear E a; intro a E
               iterate 2 (refine zmd E ?_; clear E a; intro a E)
               refine zm E rfl (fun w h => by first | exact zAw E rfl rfl rfl rfl rfl rfl oZ | exact zBe E rfl rfl rfl rfl rfl rfl oZ | exact zAu E rfl rfl rfl rfl rfl rfl oZ) ?_; clear E a; intro a E
               refine zm E rfl (fun w h => zDp (vs := [_, _]) E rfl rfl rfl rfl (ha.pr.elem (lay := Prp.lay) Prp.lay_len (h.at (List.Mem.tail _ (List.Mem.tail _ ma))) hil)) ?_; clear E a; intro a E
               refine zm E rfl (fun w h => by first | exact zAc (q := 7) E rfl rfl rfl | exact zAd (q := 7) E rfl rfl rfl) ?_; clear E a; intro a E
               iterate 2 (refine zmd E ?_; clear E a; intro a E)
               refine zm E rfl (fun w h => by first | exact zAw E rfl rfl rfl rfl rfl rfl oZ | exact zBe E rfl rfl rfl rfl rfl rfl oZ | exact zAu E rfl rfl rfl rfl rfl rfl oZ) ?_; clear E a; intro a E
               refine zm E rfl (fun w h => zDp (vs := [_, _]) E rfl rfl rfl rfl (hq.pr.elem (lay := Prp.lay) Prp.lay_len (h.at (List.Mem.tail _ (List.Mem.tail _ mb))) hil2)) ?_; clear E a; intro a E
               refine zm E rfl (fun w h => rn_neq_strs E rfl rfl rfl rfl yZ yZ rfl rfl) ?_; clear E a; intro a E
               refine zBi ?_
               refine zAb hK ?_; clear hK K
               refine zAs E rfl (fun hb => ?_) (fun hb => ?_)
               ·replace hb := Nrm.nrm hb
                refine wp_seq_k ?_; intro K hK
                refine zAa ?_
                refine zd E ?_; clear E a; intro a E
                refine wpList_nil ?_
                refine zAb hK ?_; clear hK K
                refine wp_ret ?_
                refine zBw ?_
                refine zAn ?_; clear hK K
                refine zAn ?_
                refine zBw ?_
                refine zAn ?_; clear hK K
                refine ret1 E rfl rfl ?_
                exact ⟨_, rfl, _, rfl, ⟨fun q => Bool.noConfusion q, by rintro rfl; simp at hb⟩, S.tail2.tr⟩
               ·replace hb := Nrm.nrm hb
                refine wp_skip ?_
                refine zAr ?_
                refine zAb hK ?_; clear hK K
                refine zAa ?_
                refine zd E ?_; clear E a; intro a E
                refine zp E (zBc E rfl rfl rfl (by first | exact zBq (y := 1) oZ | exact w_in oZ | exact zBb oZ | exact rfl)) ?_; clear E a; intro a E
                refine zd E ?_; clear E a; intro a E
                refine wpList_nil ?_
                refine zAy ?_
                refine ⟨_, by omega, i + 1, rfl, by omega, take_more he hil hil2 ?_, S, E.keep (kE4 rfl rfl rfl rfl)⟩
                have hb : ra.props[i].name = rb.props[i].name ∧ ra.props[i].value = rb.props[i].value := by simpa using hb
                cases hra : ra.props[i]
                cases hrb : rb.props[i]
                rw [hra, hrb] at hb
                simp only at hb
                rw [hb.1, hb.2]
              ·replace hb := Nrm.nrm hb
               refine wp_exit ?_
               refine zAp ?_; clear hK K
               refine zAp ?_
               refine zBr ?_
               refine zAb hK ?_; clear hK K
               iterate 2 (refine wp_seq_k ?_; intro K hK)
               have e8' : ra.props = rb.props := by rw [List.take_of_length_le oZ, List.take_of_length_le oZ] at he; exact he
               refine zAa ?_
               refine zd E ?_; clear E a; intro a E
               refine wpList_nil ?_
               refine zAb hK ?_; clear hK K
               refine wp_block ?_
               refine wp_loop_ghost (fun (m : Nat) (a : Act) (w' : World) => ∃ i : Nat, m = ra.keep.length - i ∧ i ≤ ra.keep.length ∧ ra.keep.take i = rb.keep.take i ∧ St w0 As w' ([(b3, cel (rb.cells (.slice a4 rb.props.length c4) (.slice a5 rb.keep.length c5) (.slice a6 rb.data.length c6)) 26)] :: [(b2, cel (ra.cells (.slice a1 ra.props.length c1) (.slice a2 ra.keep.length c2) (.slice a3 ra.data.length c3)) 26)] :: As) ∧ Fr a 136 [(2, ptr b2), (3, ptr b3), (4, .bool false), (6, .int .i64 i)]) (ra.keep.length) ?_ ?_
               ·exact ⟨0, by omega, by omega, rfl, S, E.keep (kE4 rfl rfl rfl rfl)⟩
               clear E; clear a; (try clear S); rintro m a w ⟨j, rfl, hj, hk, S, E⟩
               iterate 2 (refine wp_seq_k ?_; intro K hK)
               refine zAa ?_
               refine zd E ?_; clear E a; intro a E
               refine zp E (by first | exact zAc (q := 11) E rfl rfl rfl | exact zAd (q := 11) E rfl rfl rfl) ?_; clear E a; intro a E
               iterate 3 (refine zd E ?_; clear E a; intro a E)
               refine wpList_nil ?_
               refine zAb hK ?_; clear hK K
               refine zAs E rfl (fun hb => ?_) (fun hb => ?_)
               ·replace hb := Nrm.nrm hb
                refine wp_skip ?_
                refine zAb hK ?_; clear hK K
                refine wp_seq_k ?_; intro K hK
                refine wp_block ?_
                refine wp_seq_k ?_; intro K hK
                have hil : j < ra.keep.length := by omega
                have hil2 : j < rb.keep.length := by omega
                obtain ⟨q1, o1, rfl⟩ := ha.kr.addr oZ
                obtain ⟨q2, o2, rfl⟩ := hq.kr.addr oZ
                refine zBg S (.ofL [(0, 0), (1, 0), (2, 0), (3, 0), (4, 0), (5, 0), (6, 0), (7, 0), (8, 0), (9, 0), (10, 0)]) yZ yZ ?_
                clear S; intro w S
                refine zm E rfl (fun w h => by first | exact zAc (q := 11) E rfl rfl rfl | exact zAd (q := 11) E rfl rfl rfl) ?_; clear E a; intro a E
                iterate 2 (refine zmd E ?_; clear E a; intro a E)
                refine zm E rfl (fun w h => by first | exact zAw E rfl rfl rfl rfl rfl rfl oZ | exact zBe E rfl rfl rfl rfl rfl rfl oZ | exact zAu E rfl rfl rfl rfl rfl rfl oZ) ?_; clear E a; intro a E
                refine zm E rfl (fun w h => zBd E rfl rfl rfl (ha.kr.cells (h.at (List.Mem.tail _ (List.Mem.tail _ ma))) rfl j _ (zGh hil))) ?_; clear E a; intro a E
                refine zm E rfl (fun w h => by first | exact zAc (q := 11) E rfl rfl rfl | exact zAd (q := 11) E rfl rfl rfl) ?_; clear E a; intro a E
                iterate 2 (refine zmd E ?_; clear E a; intro a E)
                refine zm E rfl (fun w h => by first | exact zAw E rfl rfl rfl rfl rfl rfl oZ | exact zBe E rfl rfl rfl rfl rfl rfl oZ | exact zAu E rfl rfl rfl rfl rfl rfl oZ) ?_; clear E a; intro a E
                refine zm E rfl (fun w h => zBd E rfl rfl rfl (hq.kr.cells (h.at (List.Mem.tail _ (List.Mem.tail _ mb))) rfl j _ (zGh hil2))) ?_; clear E a; intro a E
                refine zmd E ?_; clear E a; intro a E
                refine zBi ?_
                refine zAb hK ?_; clear hK K
                refine zAs E rfl (fun hb => ?_) (fun hb => ?_)
                ·replace hb := Nrm.nrm hb
                 refine wp_seq_k ?_; intro K hK
                 refine zAa ?_
                 refine zd E ?_; clear E a; intro a E
                 refine wpList_nil ?_
                 refine zAb hK ?_; clear hK K
                 refine wp_ret ?_
                 refine zBw ?_
                 refine zAn ?_; clear hK K
                 refine zAn ?_
                 refine zBw ?_
                 refine zAn ?_; clear hK K
                 refine ret1 E rfl rfl ?_
                 exact ⟨_, rfl, _, rfl, ⟨fun q => Bool.noConfusion q, by rintro rfl; exact absurd rfl hb⟩, S.tail2.tr⟩
                ·replace hb := Nrm.nrm hb
                 refine wp_skip ?_
                 refine zAr ?_
                 refine zAb hK ?_; clear hK K
                 refine zAa ?_
                 refine zd E ?_; clear E a; intro a E
                 refine zp E (zBc E rfl rfl rfl (by first | exact zBq (y := 1) oZ | exact w_in oZ | exact zBb oZ | exact rfl)) ?_; clear E a; intro a E
                 refine zd E ?_; clear E a; intro a E
                 refine wpList_nil ?_
                 refine zAy ?_
                 exact ⟨_, by omega, j + 1, rfl, by omega, take_more hk hil hil2 hb, S, E.keep (kE4 rfl rfl rfl rfl)⟩
               ·replace hb := Nrm.nrm hb
                refine wp_exit ?_
                refine zAp ?_; clear hK K
                refine zAp ?_
                refine zBr ?_
                refine zAb hK ?_; clear hK K
                refine wp_seq_k ?_; intro K hK
                refine zAa ?_
                refine zd E ?_; clear E a; intro a E
                refine wpList_nil ?_
                refine zAb hK ?_; clear hK K
                refine wp_ret ?_
                refine ret1 E rfl rfl ?_
                have e12' : ra.keep = rb.keep := by rw [List.take_of_length_le oZ, List.take_of_length_le oZ] at hk; exact hk
                refine ⟨_, rfl, _, rfl, ⟨fun _ => ?_, fun _ => rfl⟩, S.tail2.tr⟩
                obtain ⟨A1, A2, A3, A4, A5, A6, A7, A8, A9, A10, A11, A12, A13⟩ := ra
                obtain ⟨B1, B2, B3, B4, B5, B6, B7, B8, B9, B10, B11, B12, B13⟩ := rb
                simp only at *
                simp_all
end Go.Proofs.YtbogecljkaimdaaGreatDoor
namespace Go.Sl
structure RV where
 r : Rec
 pv : Value
 kv : Value
 dv : Value
def RV.lay (x : RV) : List Value := x.r.cells x.pv x.kv x.dv
theorem RV.lay_len (x : RV) : x.lay.length = 13 := rfl
def RVs (X : zAl) (l : List RV) : Prop := ∀ x ∈ l, RecR X x.r x.pv x.kv x.dv
abbrev fsC (s : Fs) : List Value := [.int .u64 s.a, .int .u64 s.b, .int .u64 s.c, .int .u64 s.d]
theorem RecR.sub {C D : zAl} {r : Rec} {pv kv dv : Value} (h : RecR C r pv kv dv) (hs : ∀ x ∈ C, x ∈ D) : RecR D r pv kv dv := ⟨h.pr.sub hs, h.kr.sub hs, h.dr.sub hs⟩
theorem RVs.sub {C D : zAl} {l : List RV} (h : RVs C l) (hs : ∀ x ∈ C, x ∈ D) : RVs D l := fun x hx => (h x hx).sub hs
end Go.Sl
namespace Go.Proofs.YtbogecljkaimdaaGreatDoor
open Go.Sl
set_option maxRecDepth 10000
end Go.Proofs.YtbogecljkaimdaaGreatDoor
namespace Go.Proofs.YtbogecljkaimdaaGreatDoor
open Go.Sl
set_option maxRecDepth 10000
structure DecOk (b : List UInt8) (s : Fs) (r : Rec) (n : Nat) (o : Fs) : Prop where
 k : inK (zCs b)
 sz : zBm b ≤ 2048
 len : 37 + zBm b ≤ b.length
 n_ : n = 37 + zBm b
 o_ : o = ownD b s
 sl_ : zEf (ownD b s) = (b.drop (5 + zBm b)).take 32
 r_ : r = (zEj (zCs b) ⟨zEk b, 0, 0⟩).1
 done : (zEj (zCs b) ⟨zEk b, 0, 0⟩).2.done = 0
 ck : ckB r = true
theorem dec_inv (b : List UInt8) (s : Fs) : ((decR b s).1 = 10 ∨ (decR b s).1 = 200 ∨ (decR b s).1 = 201) ∧ decR b s = zIg (decR b s).1 ∨ ∃ r n o, decR b s = (0, r, n, o) ∧ DecOk b s r n o := by
 by_cases h5 : b.length < 5
 ·left; rw [dec_1 h5]; exact ⟨.inl rfl, rfl⟩
 by_cases h2 : ¬ inK (zCs b) ∨ 2048 < zBm b
 ·left; rw [dec_2 oZ h2]; exact ⟨.inr (.inl rfl), rfl⟩
 have hk : inK (zCs b) := Classical.byContradiction fun q => h2 (.inl q)
 have hn : zBm b ≤ 2048 := Nat.le_of_not_lt fun q => h2 (.inr q)
 by_cases h3 : b.length < 37 + zBm b
 ·left; rw [dec_3 oZ hk hn h3]; exact ⟨.inl rfl, rfl⟩
 by_cases h4 : zEf (ownD b s) = (b.drop (5 + zBm b)).take 32
 ·by_cases h6 : (zEj (zCs b) ⟨zEk b, 0, 0⟩).2.done ≠ 0 ∨ ckB (zEj (zCs b) ⟨zEk b, 0, 0⟩).1 = false
  ·left; rw [dec_5 oZ hk hn oZ h4 h6]; exact ⟨.inr (.inl rfl), rfl⟩
  ·have h8 : (zEj (zCs b) ⟨zEk b, 0, 0⟩).2.done = 0 := Classical.byContradiction fun q => h6 (.inl q)
   have h9 : ckB (zEj (zCs b) ⟨zEk b, 0, 0⟩).1 = true := by
    cases hc : ckB (zEj (zCs b) ⟨zEk b, 0, 0⟩).1 with
    | true => rfl
    | false => exact absurd (.inr hc) h6
   exact .inr ⟨_, _, _, dec_6 oZ hk hn oZ h4 h8 h9, hk, hn, by omega, rfl, rfl, h4, rfl, h8, h9⟩
 ·left; rw [dec_4 oZ hk hn oZ h4]; exact ⟨.inr (.inr rfl), rfl⟩
theorem dec_sml (b : List UInt8) (s : Fs) : Sml (decR b s).2.1 := by
 rcases dec_inv b s with ⟨_, h1⟩ | ⟨r, n, o, h1, h2⟩
 ·rw [h1]; exact ⟨zCj, zCj, zCj, zGv, zCj, zCj⟩
 ·rw [h1]; simp only; rw [h2.r_]; exact zKg h2.k _
theorem zKy {α : Type} {x : α} {l : List α} (h : x ∈ l) : ∃ r, l.Perm (x :: r) := by
 obtain ⟨s, t, rfl⟩ := List.append_of_mem h
 exact ⟨s ++ t, List.perm_middle⟩
end Go.Proofs.YtbogecljkaimdaaGreatDoor
namespace Go.Sl
theorem dotI (c : UInt8) : dotB c = (((c.toNat : Int) == 46) || ((c.toNat : Int) == 95) || ((c.toNat : Int) == 45)) := by
 rw [Bool.eq_iff_iff, dotB_iff]; simp; omega
def okB (c : UInt8) (i : Nat) : Bool := letB c || (!((i : Int) == 0) && dotB c)
theorem okB_at {l : List UInt8} {i : Nat} (h : i < l.length) : okB l[i] i = true ↔ okAt l i h := by
 simp [okB, okAt]
end Go.Sl
namespace Go.Proofs.YtbogecljkaimdaaGreatDoor
open Go.Sl
set_option maxRecDepth 10000
theorem zKi (l : List UInt8) (hl : l.length ≤ 140737488355328) (As : List zAl) (w0 : World) (H : Hp w0 As) :
  Ret Tryz.prog 78 #[str l] w0 fun u w' => u = .bool (zEw l) ∧ Trs w0 w' As As := by
 have S := St.begin H
 refine zCd 55 Tryz.func78 rfl rfl dZ ?_; intro a E
 refine wp_seq_k ?_; intro K hK
 refine zAa ?_
 refine zd E ?_; clear E a; intro a E
 refine wpList_nil ?_
 refine zAb hK ?_; clear hK K
 iterate 2 (refine wp_seq_k ?_; intro K hK)
 refine zDd (fun (a : Act) (w' : World) => ∃ z, (z = true ↔ (l.length < 1 ∨ 24 < l.length)) ∧ St w0 As w' As ∧ Fr a 55 [(0, str l), (2, .bool false), (13, .bool z)]) ?_ ?_
 ·skip
  refine zAa ?_
  iterate 4 (refine zd E ?_; clear E a; intro a E)
  refine zAj E (t := 9) rfl (fun hb9 => ?_) (fun hb9 => ?_)
  ·have hb9n := hb9; replace hb9n := Nrm.nrm hb9n
   iterate 3 (refine zn E hb9 ?_; clear E a; intro a E)
   refine zp E (zAf E rfl rfl hb9 rfl) ?_; clear E a; intro a E
   refine wpList_nil ?_
   refine zAk ?_
   exact ⟨_, ⟨fun q => by first | omega | (simp only [decide_eq_true_eq] at q; omega) | (simp at q; omega) | exact Bool.noConfusion q, fun q => by first | rfl | (simp only [decide_eq_true_eq]; omega) | (exfalso; omega) | (simp; omega)⟩, S, E.keep (kE3 rfl rfl rfl)⟩
  ·have hb9n := hb9; replace hb9n := Nrm.nrm hb9n
   iterate 3 (refine zyd E hb9 ?_; clear E a; intro a E)
   refine zp E (zAe E rfl rfl hb9 rfl) ?_; clear E a; intro a E
   refine wpList_nil ?_
   refine zAk ?_
   exact ⟨_, ⟨fun q => by first | omega | (simp only [decide_eq_true_eq] at q; omega) | (simp at q; omega) | exact Bool.noConfusion q, fun q => by first | rfl | (simp only [decide_eq_true_eq]; omega) | (exfalso; omega) | (simp; omega)⟩, S, E.keep (kE3 rfl rfl rfl)⟩
 ·clear E S a; intro a w J; obtain ⟨_, hz, S, E⟩ := J
  refine zAb hK ?_; clear hK K
  refine zAs E rfl (fun hb => ?_) (fun hb => ?_)
  ·replace hb := Nrm.nrm hb
   have hb := hz.1 hb
   refine wp_seq_k ?_; intro K hK
   refine zAa ?_
   refine zd E ?_; clear E a; intro a E
   refine wpList_nil ?_
   refine zAb hK ?_; clear hK K
   refine wp_ret ?_
   refine zAn ?_; clear hK K
   refine ret1 E rfl rfl ?_
   exact ⟨_, rfl, by rw [partB_no]; intro h; have := h.1; have := h.2.1; omega, S.tr⟩
  ·replace hb := Nrm.nrm hb
   have hb : ¬ (l.length < 1 ∨ 24 < l.length) := fun q => by rw [hz.2 q] at hb; cases hb
   refine wp_skip ?_
   refine zAb hK ?_; clear hK K
   iterate 2 (refine wp_seq_k ?_; intro K hK)
   refine zAa ?_
   refine zd E ?_; clear E a; intro a E
   refine wpList_nil ?_
   refine zAb hK ?_; clear hK K
   refine wp_block ?_
   refine wp_loop_ghost (fun (m : Nat) (a : Act) (w' : World) => ∃ i : Nat, m = l.length - i ∧ i ≤ l.length ∧ (∀ k, ∀ hk : k < l.length, k < i → okAt l k hk) ∧ St w0 As w' As ∧ Fr a 55 [(0, str l), (2, .bool false), (3, .int .i64 i)]) (l.length) ?_ ?_
   ·exact ⟨0, by omega, by omega, by intro k _ h; omega, S, E.keep (kE3 rfl rfl rfl)⟩
   clear E; clear a; (try clear S); rintro m a w ⟨i, rfl, hi, hok, S, E⟩
   iterate 2 (refine wp_seq_k ?_; intro K hK)
   refine zAa ?_
   iterate 4 (refine zd E ?_; clear E a; intro a E)
   refine wpList_nil ?_
   refine zAb hK ?_; clear hK K
   refine zAs E rfl (fun hb => ?_) (fun hb => ?_)
   ·replace hb := Nrm.nrm hb
    refine wp_skip ?_
    refine zAb hK ?_; clear hK K
    refine wp_seq_k ?_; intro K hK
    refine wp_block ?_
    refine wp_seq_k ?_; intro K hK
    have hil : i < l.length := by omega
    refine zAa ?_
    iterate 2 (refine zd E ?_; clear E a; intro a E)
    refine zp E (by first | exact zDo E rfl rfl rfl rfl rfl (by assumption) | exact zCi E rfl rfl rfl rfl rfl oZ) ?_; clear E a; intro a E
    refine zd E ?_; clear E a; intro a E
    refine wpList_nil ?_
    refine zAb hK ?_; clear hK K
    refine wp_seq_k ?_; intro K hK
    obtain ⟨c, hc⟩ : ∃ c, c = l[i] := ⟨_, rfl⟩
    rw [← hc] at E
    refine zDd (fun (a : Act) (w' : World) => ∃ z, (z = true ↔ ((97 ≤ c.toNat ∧ c.toNat ≤ 122) ∨ (48 ≤ c.toNat ∧ c.toNat ≤ 57))) ∧ St w0 As w' As ∧ Fr a 55 [(0, str l), (2, .bool false), (3, .int .i64 i), (4, .int .u8 c.toNat), (5, .bool z)]) ?_ ?_
    ·skip
     refine zAa ?_
     iterate 3 (refine zd E ?_; clear E a; intro a E)
     refine zAj E (t := 25) rfl (fun hb25 => ?_) (fun hb25 => ?_)
     ·have hb25n := hb25; replace hb25n := Nrm.nrm hb25n
      iterate 2 (refine zyd E hb25 ?_; clear E a; intro a E)
      refine zp E (zAf E rfl rfl hb25 rfl) ?_; clear E a; intro a E
      refine zd E ?_; clear E a; intro a E
      refine zAj E (t := 29) rfl (fun hb29 => ?_) (fun hb29 => ?_)
      ·have hb29n := hb29; replace hb29n := Nrm.nrm hb29n
       iterate 3 (refine zn E hb29 ?_; clear E a; intro a E)
       iterate 2 (refine zu E ?_; clear E a; intro a E)
       refine zn E hb29 ?_; clear E a; intro a E
       refine zp E (zAf E rfl rfl hb29 rfl) ?_; clear E a; intro a E
       refine zd E ?_; clear E a; intro a E
       refine wpList_nil ?_
       refine zAk ?_
       exact ⟨_, ⟨fun q => by first | omega | (simp only [decide_eq_true_eq] at q; omega) | (simp at q; omega) | exact Bool.noConfusion q, fun q => by first | rfl | (simp only [decide_eq_true_eq]; omega) | (exfalso; omega) | (simp; omega)⟩, S, E.keep (kE5 rfl rfl rfl rfl rfl)⟩
      ·have hb29n := hb29; replace hb29n := Nrm.nrm hb29n
       iterate 3 (refine zyd E hb29 ?_; clear E a; intro a E)
       refine zAj E (t := 32) rfl (fun hb32 => ?_) (fun hb32 => ?_)
       ·have hb32n := hb32; replace hb32n := Nrm.nrm hb32n
        iterate 2 (refine zyd E hb32 ?_; clear E a; intro a E)
        refine zy E hb29 (zAf E rfl rfl hb32 rfl) ?_; clear E a; intro a E
        refine zp E (zAe E rfl rfl hb29 rfl) ?_; clear E a; intro a E
        refine zd E ?_; clear E a; intro a E
        refine wpList_nil ?_
        refine zAk ?_
        exact ⟨_, ⟨fun q => by first | omega | (simp only [decide_eq_true_eq] at q; omega) | (simp at q; omega) | exact Bool.noConfusion q, fun q => by first | rfl | (simp only [decide_eq_true_eq]; omega) | (exfalso; omega) | (simp; omega)⟩, S, E.keep (kE5 rfl rfl rfl rfl rfl)⟩
       ·have hb32n := hb32; replace hb32n := Nrm.nrm hb32n
        iterate 2 (refine zn E hb32 ?_; clear E a; intro a E)
        refine zy E hb29 (zAe E rfl rfl hb32 rfl) ?_; clear E a; intro a E
        refine zp E (zAe E rfl rfl hb29 rfl) ?_; clear E a; intro a E
        refine zd E ?_; clear E a; intro a E
        refine wpList_nil ?_
        refine zAk ?_
        exact ⟨_, ⟨fun q => by first | omega | (simp only [decide_eq_true_eq] at q; omega) | (simp at q; omega) | exact Bool.noConfusion q, fun q => by first | rfl | (simp only [decide_eq_true_eq]; omega) | (exfalso; omega) | (simp; omega)⟩, S, E.keep (kE5 rfl rfl rfl rfl rfl)⟩
     ·have hb25n := hb25; replace hb25n := Nrm.nrm hb25n
      iterate 2 (refine zn E hb25 ?_; clear E a; intro a E)
      refine zp E (zAe E rfl rfl hb25 rfl) ?_; clear E a; intro a E
      refine zd E ?_; clear E a; intro a E
      iterate 3 (refine zyd E rfl ?_; clear E a; intro a E)
      refine zAj E (t := 32) rfl (fun hb32 => ?_) (fun hb32 => ?_)
      ·have hb32n := hb32; replace hb32n := Nrm.nrm hb32n
       iterate 2 (refine zyd E hb32 ?_; clear E a; intro a E)
       refine zy E rfl (zAf E rfl rfl hb32 rfl) ?_; clear E a; intro a E
       refine zp E (zAe E rfl rfl rfl rfl) ?_; clear E a; intro a E
       refine zd E ?_; clear E a; intro a E
       refine wpList_nil ?_
       refine zAk ?_
       exact ⟨_, ⟨fun q => by first | omega | (simp only [decide_eq_true_eq] at q; omega) | (simp at q; omega) | exact Bool.noConfusion q, fun q => by first | rfl | (simp only [decide_eq_true_eq]; omega) | (exfalso; omega) | (simp; omega)⟩, S, E.keep (kE5 rfl rfl rfl rfl rfl)⟩
      ·have hb32n := hb32; replace hb32n := Nrm.nrm hb32n
       iterate 2 (refine zn E hb32 ?_; clear E a; intro a E)
       refine zy E rfl (zAe E rfl rfl hb32 rfl) ?_; clear E a; intro a E
       refine zp E (zAe E rfl rfl rfl rfl) ?_; clear E a; intro a E
       refine zd E ?_; clear E a; intro a E
       refine wpList_nil ?_
       refine zAk ?_
       exact ⟨_, ⟨fun q => by first | omega | (simp only [decide_eq_true_eq] at q; omega) | (simp at q; omega) | exact Bool.noConfusion q, fun q => by first | rfl | (simp only [decide_eq_true_eq]; omega) | (exfalso; omega) | (simp; omega)⟩, S, E.keep (kE5 rfl rfl rfl rfl rfl)⟩
    ·clear E S a; intro a w J; obtain ⟨z, hz, S, E⟩ := J
     obtain rfl : z = letB c := by rw [Bool.eq_iff_iff, zHa]; exact hz
     refine zAb hK ?_; clear hK K
     refine wp_seq_k ?_; intro K hK
     refine zDd (fun (a : Act) (w' : World) => ∃ z, z = !okB c i ∧ St w0 As w' As ∧ Fr a 55 [(0, str l), (2, .bool false), (3, .int .i64 i), (54, .bool z)]) ?_ ?_
     ·skip
      refine zAa ?_
      iterate 3 (refine zd E ?_; clear E a; intro a E)
      refine zAj E (t := 39) rfl (fun hb39 => ?_) (fun hb39 => ?_)
      ·have hb39n := hb39; replace hb39n := Nrm.nrm hb39n
       iterate 3 (refine zyd E hb39 ?_; clear E a; intro a E)
       refine zAj E (t := 42) rfl (fun hb42 => ?_) (fun hb42 => ?_)
       ·have hb42n := hb42; replace hb42n := Nrm.nrm hb42n
        iterate 3 (refine zn E hb42 ?_; clear E a; intro a E)
        iterate 2 (refine zu E ?_; clear E a; intro a E)
        iterate 2 (refine zn E hb42 ?_; clear E a; intro a E)
        iterate 2 (refine zu E ?_; clear E a; intro a E)
        refine zn E hb42 ?_; clear E a; intro a E
        refine zy E hb39 (zAf E rfl rfl hb42 rfl) ?_; clear E a; intro a E
        refine zp E (zAf E rfl rfl hb39 rfl) ?_; clear E a; intro a E
        refine wpList_nil ?_
        refine zAk ?_
        exact ⟨_, by unfold okB; rw [dotI]; clear E S hz; simp_all <;> (rw [Bool.eq_iff_iff]; simp; omega), S, E.keep (kE4 rfl rfl rfl rfl)⟩
       ·have hb42n := hb42; replace hb42n := Nrm.nrm hb42n
        iterate 3 (refine zyd E hb42 ?_; clear E a; intro a E)
        refine zAj E (t := 45) rfl (fun hb45 => ?_) (fun hb45 => ?_)
        ·have hb45n := hb45; replace hb45n := Nrm.nrm hb45n
         iterate 2 (refine zyd E hb45 ?_; clear E a; intro a E)
         refine zy E hb42 (zAf E rfl rfl hb45 rfl) ?_; clear E a; intro a E
         refine zyd E hb42 ?_; clear E a; intro a E
         refine zAj E (t := 49) rfl (fun hb49 => ?_) (fun hb49 => ?_)
         ·have hb49n := hb49; replace hb49n := Nrm.nrm hb49n
          iterate 2 (refine zyd E hb49 ?_; clear E a; intro a E)
          refine zy E hb42 (zAf E rfl rfl hb49 rfl) ?_; clear E a; intro a E
          refine zy E hb39 (zAe E rfl rfl hb42 rfl) ?_; clear E a; intro a E
          refine zp E (zAf E rfl rfl hb39 rfl) ?_; clear E a; intro a E
          refine wpList_nil ?_
          refine zAk ?_
          exact ⟨_, by unfold okB; rw [dotI]; clear E S hz; simp_all <;> (rw [Bool.eq_iff_iff]; simp; omega), S, E.keep (kE4 rfl rfl rfl rfl)⟩
         ·have hb49n := hb49; replace hb49n := Nrm.nrm hb49n
          iterate 2 (refine zn E hb49 ?_; clear E a; intro a E)
          refine zy E hb42 (zAe E rfl rfl hb49 rfl) ?_; clear E a; intro a E
          refine zy E hb39 (zAe E rfl rfl hb42 rfl) ?_; clear E a; intro a E
          refine zp E (zAf E rfl rfl hb39 rfl) ?_; clear E a; intro a E
          refine wpList_nil ?_
          refine zAk ?_
          exact ⟨_, by unfold okB; rw [dotI]; clear E S hz; simp_all <;> (rw [Bool.eq_iff_iff]; simp; omega), S, E.keep (kE4 rfl rfl rfl rfl)⟩
        ·have hb45n := hb45; replace hb45n := Nrm.nrm hb45n
         iterate 2 (refine zn E hb45 ?_; clear E a; intro a E)
         refine zy E hb42 (zAe E rfl rfl hb45 rfl) ?_; clear E a; intro a E
         refine zyd E hb42 ?_; clear E a; intro a E
         iterate 2 (refine zn E rfl ?_; clear E a; intro a E)
         refine zy E hb42 (zAe E rfl rfl rfl rfl) ?_; clear E a; intro a E
         refine zy E hb39 (zAe E rfl rfl hb42 rfl) ?_; clear E a; intro a E
         refine zp E (zAf E rfl rfl hb39 rfl) ?_; clear E a; intro a E
         refine wpList_nil ?_
         refine zAk ?_
         exact ⟨_, by unfold okB; rw [dotI]; clear E S hz; simp_all <;> (rw [Bool.eq_iff_iff]; simp; omega), S, E.keep (kE4 rfl rfl rfl rfl)⟩
      ·have hb39n := hb39; replace hb39n := Nrm.nrm hb39n
       iterate 3 (refine zn E hb39 ?_; clear E a; intro a E)
       iterate 10 (refine zu E ?_; clear E a; intro a E)
       refine zn E hb39 ?_; clear E a; intro a E
       refine zp E (zAe E rfl rfl hb39 rfl) ?_; clear E a; intro a E
       refine wpList_nil ?_
       refine zAk ?_
       exact ⟨_, by unfold okB; rw [dotI]; clear E S hz; simp_all <;> (rw [Bool.eq_iff_iff]; simp; omega), S, E.keep (kE4 rfl rfl rfl rfl)⟩
     ·clear E S a; intro a w J; obtain ⟨_, rfl, S, E⟩ := J
      refine zAb hK ?_; clear hK K
      refine zAs E rfl (fun hb => ?_) (fun hb => ?_)
      ·replace hb := Nrm.nrm hb
       refine wp_seq_k ?_; intro K hK
       refine zAa ?_
       refine zd E ?_; clear E a; intro a E
       refine wpList_nil ?_
       refine zAb hK ?_; clear hK K
       refine wp_ret ?_
       refine zBw ?_
       refine zAn ?_; clear hK K
       refine zAn ?_
       refine zBw ?_
       refine zAn ?_; clear hK K
       refine ret1 E rfl rfl ?_
       exact ⟨_, rfl, by rw [partB_no]; intro h; have := (okB_at hil).2 (h.2.2 i hil); rw [← hc] at this; simp [this] at hb, S.tr⟩
      ·replace hb := Nrm.nrm hb
       refine wp_skip ?_
       refine zAr ?_
       refine zAb hK ?_; clear hK K
       refine zAa ?_
       refine zd E ?_; clear E a; intro a E
       refine zp E (zBc E rfl rfl rfl (by first | exact zBq (y := 1) oZ | exact w_in oZ | exact zBb oZ | exact rfl)) ?_; clear E a; intro a E
       refine zd E ?_; clear E a; intro a E
       refine wpList_nil ?_
       refine zAy ?_
       exact ⟨_, by omega, i + 1, rfl, by omega, ok_more hok hil ((okB_at hil).1 (by rw [← hc]; simpa using hb)), S, E.keep (kE3 rfl rfl rfl)⟩
   ·replace hb := Nrm.nrm hb
    refine wp_exit ?_
    refine zAp ?_; clear hK K
    refine zAp ?_
    refine zBr ?_
    refine zAb hK ?_; clear hK K
    refine wp_seq_k ?_; intro K hK
    refine zAa ?_
    refine zd E ?_; clear E a; intro a E
    refine wpList_nil ?_
    refine zAb hK ?_; clear hK K
    refine wp_ret ?_
    refine ret1 E rfl rfl ?_
    exact ⟨_, rfl, by rw [(part_end (l := l) fun k hk => hok k hk oZ).2 oZ], S.tr⟩
theorem zKj (l : List UInt8) (hl : l.length ≤ 140737488355328) (As : List zAl) (w0 : World) (H : Hp w0 As) :
  Ret Tryz.prog 34 #[str l] w0 fun u w' => u = .bool (zEw l) ∧ Trs w0 w' As As := by
 have S := St.begin H
 refine zCd 5 Tryz.func34 rfl rfl dZ ?_; intro a E
 refine wp_seq_k ?_; intro K hK
 refine zAa ?_
 refine zd E ?_; clear E a; intro a E
 refine wpList_nil ?_
 refine zAb hK ?_; clear hK K
 refine wp_seq_k ?_; intro K hK
 refine zAa ?_
 refine zd E ?_; clear E a; intro a E
 refine zAh E rfl rfl dZ rfl Tryz.func78 rfl yZ rfl (zKi l hl _ _ S.hp) ?_
 rintro v4 w ⟨rfl, hT⟩; clear E a; intro a E
 have S := S.all hT
 refine zd E ?_; clear E a; intro a E
 refine wpList_nil ?_
 refine zAb hK ?_; clear hK K
 refine wp_ret ?_
 refine ret1 E rfl rfl ?_
 exact ⟨_, rfl, rfl, S.tr⟩
theorem uName_ret (l : List UInt8) (hl : l.length ≤ 140737488355328) (As : List zAl) (w0 : World) (H : Hp w0 As) :
  Ret Tryz.prog 79 #[str l] w0 fun u w' => u = .bool (nameB l) ∧ Trs w0 w' As As := by
 have S := St.begin H
 have hno : ∀ {z : Bool}, (z = true ↔ nameP l) → z = nameB l := fun h => by rw [Bool.eq_iff_iff, zGq]; exact h
 refine zCd 39 Tryz.func79 rfl rfl dZ ?_; intro a E
 refine wp_seq_k ?_; intro K hK
 refine zAa ?_
 refine zd E ?_; clear E a; intro a E
 refine wpList_nil ?_
 refine zAb hK ?_; clear hK K
 iterate 2 (refine wp_seq_k ?_; intro K hK)
 refine zAa ?_
 iterate 3 (refine zd E ?_; clear E a; intro a E)
 refine wpList_nil ?_
 refine zAb hK ?_; clear hK K
 refine zAs E rfl (fun hb => ?_) (fun hb => ?_)
 ·replace hb := Nrm.nrm hb
  refine wp_seq_k ?_; intro K hK
  refine zAa ?_
  refine zd E ?_; clear E a; intro a E
  refine wpList_nil ?_
  refine zAb hK ?_; clear hK K
  refine wp_ret ?_
  refine zAn ?_; clear hK K
  refine ret1 E rfl rfl ?_
  exact ⟨_, rfl, by rw [← hno (z := false) ⟨fun q => Bool.noConfusion q, fun q => by have := q.1; omega⟩], S.tr⟩
 ·replace hb := Nrm.nrm hb
  refine wp_skip ?_
  refine zAb hK ?_; clear hK K
  refine wp_seq_k ?_; intro K hK
  refine zAa ?_
  refine zd E ?_; clear E a; intro a E
  refine wpList_nil ?_
  refine zAb hK ?_; clear hK K
  refine wp_seq_k ?_; intro K hK
  refine zAa ?_
  refine zd E ?_; clear E a; intro a E
  refine wpList_nil ?_
  refine zAb hK ?_; clear hK K
  iterate 2 (refine wp_seq_k ?_; intro K hK)
  refine zAa ?_
  refine zd E ?_; clear E a; intro a E
  refine wpList_nil ?_
  refine zAb hK ?_; clear hK K
  refine wp_block ?_
  refine wp_loop_ghost (fun (m : Nat) (a : Act) (w' : World) => ∃ (i f : Nat) (cl : List (List UInt8)), m = l.length - i ∧ i ≤ l.length ∧ f ≤ i ∧ zCp l = cl ++ zCp (l.drop f) ∧ (∀ p ∈ cl, zEw p = true) ∧ ((l.drop f).take (i - f)).count 47 = 0 ∧ cl.length ≤ f ∧ St w0 As w' As ∧ Fr a 39 [(0, str l), (2, .bool false), (3, .int .i64 (cl.length + 1 : Nat)), (4, .int .i64 f), (5, .int .i64 i)]) (l.length) ?_ ?_
  ·exact ⟨0, 0, [], by omega, by omega, by omega, rfl, by simp, by simp, by simp, S, E.keep (kE5 rfl rfl rfl rfl rfl)⟩
  clear E; clear a; (try clear S); rintro m a w ⟨i, f, cl, rfl, hi, hfi, hp, hcl, hc0, hclf, S, E⟩
  iterate 2 (refine wp_seq_k ?_; intro K hK)
  refine zAa ?_
  iterate 4 (refine zd E ?_; clear E a; intro a E)
  refine wpList_nil ?_
  refine zAb hK ?_; clear hK K
  refine zAs E rfl (fun hb => ?_) (fun hb => ?_)
  ·replace hb := Nrm.nrm hb
   refine wp_skip ?_
   refine zAb hK ?_; clear hK K
   refine wp_seq_k ?_; intro K hK
   refine wp_block ?_
   refine wp_seq_k ?_; intro K hK
   have hil : i < l.length := by omega
   have hgi : (l.drop f)[i - f]'(by rw [List.length_drop]; omega) = l[i] := by rw [List.getElem_drop]; congr 1; omega
   refine zAa ?_
   iterate 2 (refine zd E ?_; clear E a; intro a E)
   refine zp E (by first | exact zDo E rfl rfl rfl rfl rfl (by assumption) | exact zCi E rfl rfl rfl rfl rfl oZ) ?_; clear E a; intro a E
   refine zd E ?_; clear E a; intro a E
   refine wpList_nil ?_
   refine zAb hK ?_; clear hK K
   refine zAs E rfl (fun hb => ?_) (fun hb => ?_)
   ·replace hb := Nrm.nrm hb
    refine wp_seq_k ?_; intro K hK
    have hc47 : l[i] = 47 := UInt8.toNat_inj.1 (by show l[i].toNat = 47; omega)
    have hcut := zIk (l := l.drop f) (m := i - f) (by rw [List.length_drop]; omega) (by rw [hgi]; exact hc47) hc0
    rw [List.drop_drop, show f + (i - f + 1) = i + 1 by omega] at hcut
    refine zAa ?_
    iterate 3 (refine zd E ?_; clear E a; intro a E)
    refine zp E (rn_str_lh (lo := f) (hi := i) E rfl rfl rfl rfl rfl rfl rfl oZ oZ) ?_; clear E a; intro a E
    refine zAh E rfl rfl dZ rfl Tryz.func78 rfl yZ rfl (zKi ((l.drop f).take (i - f)) (by rw [List.length_take, List.length_drop]; omega) _ _ S.hp) ?_
    rintro v24 w ⟨rfl, hT⟩; clear E a; intro a E
    have S := S.all hT
    refine zd E ?_; clear E a; intro a E
    refine wpList_nil ?_
    refine zAb hK ?_; clear hK K
    iterate 2 (refine wp_seq_k ?_; intro K hK)
    refine zAa ?_
    iterate 2 (refine zd E ?_; clear E a; intro a E)
    refine wpList_nil ?_
    refine zAb hK ?_; clear hK K
    refine zAs E rfl (fun hb => ?_) (fun hb => ?_)
    ·replace hb := Nrm.nrm hb
     have hb10 := hb
     refine wp_seq_k ?_; intro K hK
     refine zAa ?_
     refine zd E ?_; clear E a; intro a E
     refine wpList_nil ?_
     refine zAb hK ?_; clear hK K
     refine wp_ret ?_
     refine zAn ?_; clear hK K
     refine zBw ?_
     refine zAn ?_; clear hK K
     refine zAn ?_
     refine zBw ?_
     refine zAn ?_; clear hK K
     refine ret1 E rfl rfl ?_
     exact ⟨_, rfl, by rw [← hno (z := false) ⟨fun q => Bool.noConfusion q, fun q => by have := q.2.2 ((l.drop f).take (i - f)) (by rw [hp, hcut]; simp); simp [this] at hb10⟩], S.tr⟩
    ·replace hb := Nrm.nrm hb
     have hb10 := hb
     refine wp_skip ?_
     refine zAb hK ?_; clear hK K
     refine wp_seq_k ?_; intro K hK
     refine zAa ?_
     refine zd E ?_; clear E a; intro a E
     refine zp E (zBc E rfl rfl rfl (by first | exact zBq (y := 1) oZ | exact w_in oZ | exact zBb oZ | exact rfl)) ?_; clear E a; intro a E
     refine zd E ?_; clear E a; intro a E
     refine wpList_nil ?_
     refine zAb hK ?_; clear hK K
     refine zAa ?_
     refine zd E ?_; clear E a; intro a E
     refine zp E (zBc E rfl rfl rfl (by first | exact zBq (y := 1) oZ | exact w_in oZ | exact zBb oZ | exact rfl)) ?_; clear E a; intro a E
     refine zd E ?_; clear E a; intro a E
     refine wpList_nil ?_
     refine zAr ?_
     refine zAb hK ?_; clear hK K
     refine zAa ?_
     refine zd E ?_; clear E a; intro a E
     refine zp E (zBc E rfl rfl rfl (by first | exact zBq (y := 1) oZ | exact w_in oZ | exact zBb oZ | exact rfl)) ?_; clear E a; intro a E
     refine zd E ?_; clear E a; intro a E
     refine wpList_nil ?_
     refine zAy ?_
     first
      | exact ⟨_, by omega, i + 1, i + 1, cl ++ [(l.drop f).take (i - f)], rfl, by omega, by omega, by rw [hp, hcut]; simp, (fun p hp => by rcases List.mem_append.1 hp with q | q; exact hcl p q; rw [List.mem_singleton.1 q]; simpa using hb10), by simp, by simp; omega, S, by rw [List.length_append]; exact E.keep (kE5 rfl rfl rfl rfl rfl)⟩
      | exact ⟨_, by omega, i + 1, f, cl, rfl, by omega, by omega, hp, hcl, by
        rw [show i + 1 - f = i - f + 1 by omega, ← List.take_append_getElem (by rw [List.length_drop]; omega), List.count_append, hc0, hgi, List.count_singleton]
        have : l[i] ≠ 47 := fun q => hb (by rw [q]; rfl)
        simp [this], hclf, S, E.keep (kE5 rfl rfl rfl rfl rfl)⟩
   ·replace hb := Nrm.nrm hb
    refine wp_skip ?_
    refine zAr ?_
    refine zAb hK ?_; clear hK K
    refine zAa ?_
    refine zd E ?_; clear E a; intro a E
    refine zp E (zBc E rfl rfl rfl (by first | exact zBq (y := 1) oZ | exact w_in oZ | exact zBb oZ | exact rfl)) ?_; clear E a; intro a E
    refine zd E ?_; clear E a; intro a E
    refine wpList_nil ?_
    refine zAy ?_
    first
     | exact ⟨_, by omega, i + 1, i + 1, cl ++ [(l.drop f).take (i - f)], rfl, by omega, by omega, by rw [hp, hcut]; simp, (fun p hp => by rcases List.mem_append.1 hp with q | q; exact hcl p q; rw [List.mem_singleton.1 q]; simpa using hb10), by simp, by simp; omega, S, by rw [List.length_append]; exact E.keep (kE5 rfl rfl rfl rfl rfl)⟩
     | exact ⟨_, by omega, i + 1, f, cl, rfl, by omega, by omega, hp, hcl, by
       rw [show i + 1 - f = i - f + 1 by omega, ← List.take_append_getElem (by rw [List.length_drop]; omega), List.count_append, hc0, hgi, List.count_singleton]
       have : l[i] ≠ 47 := fun q => hb (by rw [q]; rfl)
       simp [this], hclf, S, E.keep (kE5 rfl rfl rfl rfl rfl)⟩
  ·replace hb := Nrm.nrm hb
   refine wp_exit ?_
   refine zAp ?_; clear hK K
   refine zAp ?_
   refine zBr ?_
   refine zAb hK ?_; clear hK K
   refine wp_seq_k ?_; intro K hK
   obtain rfl : i = l.length := by omega
   have hlast : zCp (l.drop f) = [l.drop f] := zJv (by rw [List.take_of_length_le (by rw [List.length_drop]; omega)] at hc0; exact hc0)
   rw [hlast] at hp
   have hpl : (zCp l).length = cl.length + 1 := by rw [hp]; simp
   refine zAa ?_
   iterate 3 (refine zd E ?_; clear E a; intro a E)
   refine zAj E (t := 33) rfl (fun hb33 => ?_) (fun hb33 => ?_)
   ·have hb33n := hb33; replace hb33n := Nrm.nrm hb33n
    iterate 2 (refine zyd E hb33 ?_; clear E a; intro a E)
    refine zy E hb33 (zLm E rfl rfl rfl rfl rfl oZ) ?_; clear E a; intro a E
    refine zBk E rfl rfl rfl rfl hb33 ?_; refine zBy E rfl dZ rfl Tryz.func78 rfl yZ rfl (zKi (l.drop f) (by rw [List.length_drop]; omega) _ _ S.hp) ?_
    rintro v37 w ⟨rfl, hT⟩; clear E a; intro a E
    have S := S.all hT
    refine zp E (zAf E rfl rfl hb33 rfl) ?_; clear E a; intro a E
    refine zd E ?_; clear E a; intro a E
    refine wpList_nil ?_
    refine zAb hK ?_; clear hK K
    refine wp_ret ?_
    refine ret1 E rfl rfl ?_
    refine ⟨_, rfl, ?_, S.tr⟩
    congr 1
    refine hno ⟨fun q => ?_, fun q => ?_⟩
    ·first
      | exact Bool.noConfusion q
      | exact ⟨by omega, by omega, fun p hp' => by rw [hp] at hp'; rcases List.mem_append.1 hp' with q' | q'; exact hcl p q'; rw [List.mem_singleton.1 q']; exact q⟩
    ·have h2 := q.2.1
     first
      | exact q.2.2 _ (by rw [hp]; simp)
      | (exfalso; omega)
   ·have hb33n := hb33; replace hb33n := Nrm.nrm hb33n
    iterate 4 (refine zn E hb33 ?_; clear E a; intro a E)
    refine zp E (zAe E rfl rfl hb33 rfl) ?_; clear E a; intro a E
    refine zd E ?_; clear E a; intro a E
    refine wpList_nil ?_
    refine zAb hK ?_; clear hK K
    refine wp_ret ?_
    refine ret1 E rfl rfl ?_
    refine ⟨_, rfl, ?_, S.tr⟩
    congr 1
    refine hno ⟨fun q => ?_, fun q => ?_⟩
    ·first
      | exact Bool.noConfusion q
      | exact ⟨by omega, by omega, fun p hp' => by rw [hp] at hp'; rcases List.mem_append.1 hp' with q' | q'; exact hcl p q'; rw [List.mem_singleton.1 q']; exact q⟩
    ·have h2 := q.2.1
     first
      | exact q.2.2 _ (by rw [hp]; simp)
      | (exfalso; omega)
theorem uvalue20_ret (l : List UInt8) (hl : l.length ≤ 140737488355328) (As : List zAl) (w0 : World) (H : Hp w0 As) :
  Ret Tryz.prog 80 #[str l] w0 fun u w' => u = .bool (decide (1 ≤ l.length ∧ l.length ≤ 64) && valB l) ∧ Trs w0 w' As As := by
 have S := St.begin H
 refine zCd 28 Tryz.func80 rfl rfl dZ ?_; intro a E
 refine wp_seq_k ?_; intro K hK
 refine zAa ?_
 refine zd E ?_; clear E a; intro a E
 refine wpList_nil ?_
 refine zAb hK ?_; clear hK K
 iterate 2 (refine wp_seq_k ?_; intro K hK)
 refine zAa ?_
 refine zd E ?_; clear E a; intro a E
 refine wpList_nil ?_
 refine zAb hK ?_; clear hK K
 refine wp_block ?_
 refine wp_loop_ghost (fun (m : Nat) (a : Act) (w' : World) => ∃ i : Nat, m = l.length - i ∧ i ≤ l.length ∧ (∀ k, ∀ hk : k < l.length, k < i → 32 ≤ l[k].toNat ∧ l[k].toNat ≤ 126) ∧ St w0 As w' As ∧ Fr a 28 [(0, str l), (2, .bool false), (3, .int .i64 i)]) (l.length) ?_ ?_
 ·exact ⟨0, by omega, by omega, by intro k _ h; omega, S, E.keep (kE3 rfl rfl rfl)⟩
 clear E; clear a; (try clear S); rintro m a w ⟨i, rfl, hi, hok, S, E⟩
 iterate 2 (refine wp_seq_k ?_; intro K hK)
 refine zAa ?_
 iterate 4 (refine zd E ?_; clear E a; intro a E)
 refine wpList_nil ?_
 refine zAb hK ?_; clear hK K
 refine zAs E rfl (fun hb => ?_) (fun hb => ?_)
 ·replace hb := Nrm.nrm hb
  refine wp_skip ?_
  refine zAb hK ?_; clear hK K
  refine wp_seq_k ?_; intro K hK
  refine wp_block ?_
  refine wp_seq_k ?_; intro K hK
  have hil : i < l.length := by omega
  refine zAa ?_
  iterate 2 (refine zd E ?_; clear E a; intro a E)
  refine zp E (by first | exact zDo E rfl rfl rfl rfl rfl (by assumption) | exact zCi E rfl rfl rfl rfl rfl oZ) ?_; clear E a; intro a E
  iterate 2 (refine zd E ?_; clear E a; intro a E)
  refine zAj E (t := 14) rfl (fun hb14 => ?_) (fun hb14 => ?_)
  ·have hb14n := hb14; replace hb14n := Nrm.nrm hb14n
   iterate 4 (refine zn E hb14 ?_; clear E a; intro a E)
   refine zp E (zAf E rfl rfl hb14 rfl) ?_; clear E a; intro a E
   refine wpList_nil ?_
   refine zAb hK ?_; clear hK K
   refine zBo E rfl rfl ?_
   refine wp_seq_k ?_; intro K hK
   refine zAa ?_
   refine zd E ?_; clear E a; intro a E
   refine wpList_nil ?_
   refine zAb hK ?_; clear hK K
   refine wp_ret ?_
   refine zBw ?_
   refine zAn ?_; clear hK K
   refine zAn ?_
   refine zBw ?_
   refine zAn ?_; clear hK K
   refine ret1 E rfl rfl ?_
   exact ⟨_, rfl, by rw [valB_no (fun q => by have := q i hil; first | omega | (simp at hb; omega))]; simp, S.tr⟩
  ·have hb14n := hb14; replace hb14n := Nrm.nrm hb14n
   iterate 2 (refine zyd E hb14 ?_; clear E a; intro a E)
   refine zy E hb14 (by first | exact zDo E rfl rfl rfl rfl rfl (by assumption) | exact zCi E rfl rfl rfl rfl rfl oZ) ?_; clear E a; intro a E
   refine zyd E hb14 ?_; clear E a; intro a E
   refine zp E (zAe E rfl rfl hb14 rfl) ?_; clear E a; intro a E
   refine wpList_nil ?_
   refine zAb hK ?_; clear hK K
   refine zAs E rfl (fun hb => ?_) (fun hb => ?_)
   ·replace hb := Nrm.nrm hb
    refine wp_seq_k ?_; intro K hK
    refine zAa ?_
    refine zd E ?_; clear E a; intro a E
    refine wpList_nil ?_
    refine zAb hK ?_; clear hK K
    refine wp_ret ?_
    refine zBw ?_
    refine zAn ?_; clear hK K
    refine zAn ?_
    refine zBw ?_
    refine zAn ?_; clear hK K
    refine ret1 E rfl rfl ?_
    exact ⟨_, rfl, by rw [valB_no (fun q => by have := q i hil; first | omega | (simp at hb; omega))]; simp, S.tr⟩
   ·replace hb := Nrm.nrm hb
    refine wp_skip ?_
    refine zAr ?_
    refine zAb hK ?_; clear hK K
    refine zAa ?_
    refine zd E ?_; clear E a; intro a E
    refine zp E (zBc E rfl rfl rfl (by first | exact zBq (y := 1) oZ | exact w_in oZ | exact zBb oZ | exact rfl)) ?_; clear E a; intro a E
    refine zd E ?_; clear E a; intro a E
    refine wpList_nil ?_
    refine zAy ?_
    exact ⟨_, by omega, i + 1, rfl, by omega, valP_more hok hil (by first | omega | (simp at hb; omega)), S, E.keep (kE3 rfl rfl rfl)⟩
 ·replace hb := Nrm.nrm hb
  refine wp_exit ?_
  refine zAp ?_; clear hK K
  refine zAp ?_
  refine zBr ?_
  refine zAb hK ?_; clear hK K
  refine wp_seq_k ?_; intro K hK
  refine zAa ?_
  iterate 4 (refine zd E ?_; clear E a; intro a E)
  refine zAj E (t := 23) rfl (fun hb23 => ?_) (fun hb23 => ?_)
  ·have hb23n := hb23; replace hb23n := Nrm.nrm hb23n
   iterate 3 (refine zyd E hb23 ?_; clear E a; intro a E)
   refine zp E (zAf E rfl rfl hb23 rfl) ?_; clear E a; intro a E
   refine zd E ?_; clear E a; intro a E
   refine wpList_nil ?_
   refine zAb hK ?_; clear hK K
   refine wp_ret ?_
   refine ret1 E rfl rfl ?_
   exact ⟨_, rfl, by rw [valB_yes (fun k hk => hok k hk oZ)]; congr 1; rw [Bool.eq_iff_iff]; simp; omega, S.tr⟩
  ·have hb23n := hb23; replace hb23n := Nrm.nrm hb23n
   iterate 3 (refine zn E hb23 ?_; clear E a; intro a E)
   refine zp E (zAe E rfl rfl hb23 rfl) ?_; clear E a; intro a E
   refine zd E ?_; clear E a; intro a E
   refine wpList_nil ?_
   refine zAb hK ?_; clear hK K
   refine wp_ret ?_
   refine ret1 E rfl rfl ?_
   exact ⟨_, rfl, by rw [valB_yes (fun k hk => hok k hk oZ)]; congr 1; rw [Bool.eq_iff_iff]; simp; omega, S.tr⟩
theorem uris_ret (C : zAl) (v : Value) (l : List Int) (hR : Rd C 1 v l.length (ints l)) (hl : l.length ≤ 140737488355328) (x y : Int) (As : List zAl) (hC : C ∈ As) (w0 : World) (H : Hp w0 As) :
  Ret Tryz.prog 36 #[v, .int .i64 x, .int .i64 y] w0 fun u w' => u = .bool (risB l x y) ∧ Trs w0 w' As As := by
 have S := St.begin H
 obtain ⟨ad, c, rfl⟩ := hR.slice
 refine zEz 47 Tryz.func36 rfl rfl dZ ?_; intro a E
 refine wp_seq_k ?_; intro K hK
 refine zAa ?_
 refine zd E ?_; clear E a; intro a E
 refine wpList_nil ?_
 refine zAb hK ?_; clear hK K
 iterate 2 (refine wp_seq_k ?_; intro K hK)
 refine zAa ?_
 refine zd E ?_; clear E a; intro a E
 refine wpList_nil ?_
 refine zAb hK ?_; clear hK K
 refine wp_block ?_
 refine wp_loop_ghost (fun (m : Nat) (a : Act) (w' : World) => ∃ i : Nat, m = l.length - i ∧ i ≤ l.length ∧ (∀ k, ∀ hk : k < l.length, k < i → risAt l x y k hk) ∧ St w0 As w' As ∧ Fr a 47 [(0, .slice ad l.length c), (1, .int .i64 x), (2, .int .i64 y), (6, .bool false), (7, .int .i64 i)]) (l.length) ?_ ?_
 ·exact ⟨0, by omega, by omega, by intro k _ h; omega, S, E.keep (kE5 rfl rfl rfl rfl rfl)⟩
 clear E; clear a; (try clear S); rintro m a w ⟨i, rfl, hi, hok, S, E⟩
 iterate 2 (refine wp_seq_k ?_; intro K hK)
 refine zAa ?_
 iterate 4 (refine zd E ?_; clear E a; intro a E)
 refine wpList_nil ?_
 refine zAb hK ?_; clear hK K
 refine zAs E rfl (fun hb => ?_) (fun hb => ?_)
 ·replace hb := Nrm.nrm hb
  refine wp_skip ?_
  refine zAb hK ?_; clear hK K
  refine wp_seq_k ?_; intro K hK
  refine wp_block ?_
  refine wp_seq_k ?_; intro K hK
  have hil : i < l.length := by omega
  obtain ⟨b, off, rfl⟩ := hR.addr oZ
  refine zDd (fun (a : Act) (w' : World) => ∃ z, (z = true ↔ ¬ risAt l x y i hil) ∧ St w0 As w' As ∧ Fr a 47 [(0, .slice (some ⟨b, off, none⟩) l.length c), (1, .int .i64 x), (2, .int .i64 y), (6, .bool false), (7, .int .i64 i), (43, .bool z)]) ?_ ?_
  ·skip
   refine zBg S (.ofL [(0, 0), (1, 0), (2, 0), (3, 0), (4, 0), (5, 0), (6, 0), (7, 0), (8, 0), (9, 0), (10, 0), (11, 0), (12, 0), (13, 0), (14, 0), (15, 0), (16, 0), (17, 0), (18, 0), (19, 0), (20, 0), (21, 0), (22, 0), (23, 0), (24, 0), (25, 0), (26, 0), (27, 0), (28, 0), (29, 0)]) yZ yZ ?_
   clear S; intro w S
   iterate 2 (refine zmd E ?_; clear E a; intro a E)
   refine zm E rfl (fun w h => by first | exact zAw E rfl rfl rfl rfl rfl rfl oZ | exact zBe E rfl rfl rfl rfl rfl rfl oZ | exact zAu E rfl rfl rfl rfl rfl rfl oZ) ?_; clear E a; intro a E
   refine zm E rfl (fun w h => zBd E rfl rfl rfl (hR.cells (h.at hC) rfl i _ (zGh hil))) ?_; clear E a; intro a E
   iterate 3 (refine zmd E ?_; clear E a; intro a E)
   refine zAj E (t := 20) rfl (fun hb20 => ?_) (fun hb20 => ?_)
   ·have hb20n := hb20; replace hb20n := Nrm.nrm hb20n
    iterate 6 (refine zBl E rfl rfl rfl rfl rfl hb20 rfl dZ ?_; clear E a; intro a E)
    refine zm E rfl (fun w h => zAf E rfl rfl hb20 rfl) ?_; clear E a; intro a E
    refine zmd E ?_; clear E a; intro a E
    iterate 3 (refine zBl E rfl rfl rfl rfl rfl rfl rfl dZ ?_; clear E a; intro a E)
    iterate 10 (refine zCx E rfl rfl rfl rfl rfl rfl dZ ?_; clear E a; intro a E)
    refine zBl E rfl rfl rfl rfl rfl rfl rfl dZ ?_; clear E a; intro a E
    refine zm E rfl (fun w h => zAf E rfl rfl rfl rfl) ?_; clear E a; intro a E
    refine zBi ?_
    refine zAk ?_
    refine ⟨_, ⟨fun q r => ?_, fun q => ?_⟩, S, E.keep (kE6 rfl rfl rfl rfl rfl rfl)⟩
    ·have r1 := r.1
     have r2 := r.2.1
     have r3 := r.2.2
     first | omega | (have := r3 oZ; simp at q <;> omega) | (simp at q <;> omega)
    ·first | rfl | (apply Classical.byContradiction; intro q2; exact q ⟨by omega, by omega, fun h0 => by first | omega | (simp at q2; omega)⟩)
   ·have hb20n := hb20; replace hb20n := Nrm.nrm hb20n
    iterate 2 (refine zAm E rfl rfl rfl rfl rfl hb20 rfl dZ (fun w h => zDk E rfl rfl) ?_; clear E a; intro a E)
    refine zAm E rfl rfl rfl rfl rfl hb20 rfl dZ (fun w h => by first | exact zAw E rfl rfl rfl rfl rfl rfl oZ | exact zBe E rfl rfl rfl rfl rfl rfl oZ | exact zAu E rfl rfl rfl rfl rfl rfl oZ) ?_; clear E a; intro a E
    refine zAm E rfl rfl rfl rfl rfl hb20 rfl dZ (fun w h => zBd E rfl rfl rfl (hR.cells (h.at hC) rfl i _ (zGh hil))) ?_; clear E a; intro a E
    refine zAm E rfl rfl rfl rfl rfl hb20 rfl dZ (fun w h => zDk E rfl rfl) ?_; clear E a; intro a E
    refine zAm E rfl rfl rfl rfl rfl hb20 rfl dZ (fun w h => zJj E rfl rfl rfl) ?_; clear E a; intro a E
    refine zm E rfl (fun w h => zAe E rfl rfl hb20 rfl) ?_; clear E a; intro a E
    refine zmd E ?_; clear E a; intro a E
    refine zAj E (t := 28) rfl (fun hb28 => ?_) (fun hb28 => ?_)
    ·have hb28n := hb28; replace hb28n := Nrm.nrm hb28n
     iterate 3 (refine zBl E rfl rfl rfl rfl rfl hb28 rfl dZ ?_; clear E a; intro a E)
     iterate 10 (refine zCx E rfl rfl rfl rfl rfl rfl dZ ?_; clear E a; intro a E)
     refine zBl E rfl rfl rfl rfl rfl hb28 rfl dZ ?_; clear E a; intro a E
     refine zm E rfl (fun w h => zAf E rfl rfl hb28 rfl) ?_; clear E a; intro a E
     refine zBi ?_
     refine zAk ?_
     refine ⟨_, ⟨fun q r => ?_, fun q => ?_⟩, S, E.keep (kE6 rfl rfl rfl rfl rfl rfl)⟩
     ·have r1 := r.1
      have r2 := r.2.1
      have r3 := r.2.2
      first | omega | (have := r3 oZ; simp at q <;> omega) | (simp at q <;> omega)
     ·first | rfl | (apply Classical.byContradiction; intro q2; exact q ⟨by omega, by omega, fun h0 => by first | omega | (simp at q2; omega)⟩)
    ·have hb28n := hb28; replace hb28n := Nrm.nrm hb28n
     refine zAm E rfl rfl rfl rfl rfl hb28 rfl dZ (fun w h => zDk E rfl rfl) ?_; clear E a; intro a E
     refine zAm E rfl rfl rfl rfl rfl hb28 rfl dZ (fun w h => zJj E rfl rfl rfl) ?_; clear E a; intro a E
     refine zAm E rfl rfl rfl rfl rfl hb28 rfl dZ (fun w h => zDk E rfl rfl) ?_; clear E a; intro a E
     refine zAj E (t := 31) rfl (fun hb31 => ?_) (fun hb31 => ?_)
     ·have hb31n := hb31; replace hb31n := Nrm.nrm hb31n
      iterate 2 (refine zAm E rfl rfl rfl rfl rfl hb31 rfl dZ (fun w h => zDk E rfl rfl) ?_; clear E a; intro a E)
      refine zAm E rfl rfl rfl rfl rfl hb31 rfl dZ (fun w h => zCv E rfl rfl rfl (by first | exact zFc (y := 1) oZ oZ | exact w_in oZ | exact zBb oZ | exact rfl)) ?_; clear E a; intro a E
      refine zAm E rfl rfl rfl rfl rfl hb31 rfl dZ (fun w h => by first | exact zAw E rfl rfl rfl rfl rfl rfl oZ | exact zBe E rfl rfl rfl rfl rfl rfl oZ | exact zAu E rfl rfl rfl rfl rfl rfl oZ) ?_; clear E a; intro a E
      refine zAm E rfl rfl rfl rfl rfl hb31 rfl dZ (fun w h => zBd E rfl rfl rfl (hR.cells (h.at hC) rfl (i - 1) _ (zGh (l := l) (i := i - 1) oZ))) ?_; clear E a; intro a E
      iterate 2 (refine zAm E rfl rfl rfl rfl rfl hb31 rfl dZ (fun w h => zDk E rfl rfl) ?_; clear E a; intro a E)
      refine zAm E rfl rfl rfl rfl rfl hb31 rfl dZ (fun w h => by first | exact zAw E rfl rfl rfl rfl rfl rfl oZ | exact zBe E rfl rfl rfl rfl rfl rfl oZ | exact zAu E rfl rfl rfl rfl rfl rfl oZ) ?_; clear E a; intro a E
      refine zAm E rfl rfl rfl rfl rfl hb31 rfl dZ (fun w h => zBd E rfl rfl rfl (hR.cells (h.at hC) rfl i _ (zGh hil))) ?_; clear E a; intro a E
      refine zAm E rfl rfl rfl rfl rfl hb31 rfl dZ (fun w h => rn_geq E rfl rfl rfl) ?_; clear E a; intro a E
      refine zAm E rfl rfl rfl rfl rfl hb28 rfl dZ (fun w h => zAf E rfl rfl hb31 rfl) ?_; clear E a; intro a E
      refine zm E rfl (fun w h => zAe E rfl rfl hb28 rfl) ?_; clear E a; intro a E
      refine zBi ?_
      refine zAk ?_
      refine ⟨_, ⟨fun q r => ?_, fun q => ?_⟩, S, E.keep (kE6 rfl rfl rfl rfl rfl rfl)⟩
      ·have r1 := r.1
       have r2 := r.2.1
       have r3 := r.2.2
       first | omega | (have := r3 oZ; simp at q <;> omega) | (simp at q <;> omega)
      ·first | rfl | (apply Classical.byContradiction; intro q2; exact q ⟨by omega, by omega, fun h0 => by first | omega | (simp at q2; omega)⟩)
     ·have hb31n := hb31; replace hb31n := Nrm.nrm hb31n
      iterate 10 (refine zBl E rfl rfl rfl rfl rfl hb31 rfl dZ ?_; clear E a; intro a E)
      refine zAm E rfl rfl rfl rfl rfl hb28 rfl dZ (fun w h => zAe E rfl rfl hb31 rfl) ?_; clear E a; intro a E
      refine zm E rfl (fun w h => zAe E rfl rfl hb28 rfl) ?_; clear E a; intro a E
      refine zBi ?_
      refine zAk ?_
      refine ⟨_, ⟨fun q r => ?_, fun q => ?_⟩, S, E.keep (kE6 rfl rfl rfl rfl rfl rfl)⟩
      ·have r1 := r.1
       have r2 := r.2.1
       have r3 := r.2.2
       first | omega | (have := r3 oZ; simp at q <;> omega) | (simp at q <;> omega)
      ·first | rfl | (apply Classical.byContradiction; intro q2; exact q ⟨by omega, by omega, fun h0 => by first | omega | (simp at q2; omega)⟩)
  ·clear E S a; intro a w J; obtain ⟨_, hz, S, E⟩ := J
   refine zAb hK ?_; clear hK K
   refine zAs E rfl (fun hb => ?_) (fun hb => ?_)
   ·replace hb := Nrm.nrm hb
    refine wp_seq_k ?_; intro K hK
    refine zAa ?_
    refine zd E ?_; clear E a; intro a E
    refine wpList_nil ?_
    refine zAb hK ?_; clear hK K
    refine wp_ret ?_
    refine zBw ?_
    refine zAn ?_; clear hK K
    refine zAn ?_
    refine zBw ?_
    refine zAn ?_; clear hK K
    refine ret1 E rfl rfl ?_
    exact ⟨_, rfl, by congr 1; exact (risB_no fun q => hz.1 hb (q.2 i hil)).symm, S.tr⟩
   ·replace hb := Nrm.nrm hb
    refine wp_skip ?_
    refine zAr ?_
    refine zAb hK ?_; clear hK K
    refine zAa ?_
    refine zd E ?_; clear E a; intro a E
    refine zp E (zBc E rfl rfl rfl (by first | exact zBq (y := 1) oZ | exact w_in oZ | exact zBb oZ | exact rfl)) ?_; clear E a; intro a E
    refine zd E ?_; clear E a; intro a E
    refine wpList_nil ?_
    refine zAy ?_
    exact ⟨_, by omega, i + 1, rfl, by omega, zFw hok hil (Classical.byContradiction fun q => by rw [hz.2 q] at hb; cases hb), S, E.keep (kE5 rfl rfl rfl rfl rfl)⟩
 ·replace hb := Nrm.nrm hb
  refine wp_exit ?_
  refine zAp ?_; clear hK K
  refine zAp ?_
  refine zBr ?_
  refine zAb hK ?_; clear hK K
  refine wp_seq_k ?_; intro K hK
  refine zAa ?_
  iterate 4 (refine zd E ?_; clear E a; intro a E)
  refine wpList_nil ?_
  refine zAb hK ?_; clear hK K
  refine wp_ret ?_
  refine ret1 E rfl rfl ?_
  exact ⟨_, rfl, by congr 1; rw [Bool.eq_iff_iff, ris_end (l := l) (fun k hk => hok k hk oZ)]; first | (simp; done) | (simp; omega), S.tr⟩
end Go.Proofs.YtbogecljkaimdaaGreatDoor
namespace Go.Sl
def fN : List Bool → Nat
 | [] => 0
 | b :: r => (if b then 1 else 0) + 2 * fN r
theorem fN_step : ∀ (l : List Bool) (i : Nat) (h : i < l.length), fN (l.take (i + 1)) = fN (l.take i) + (if l[i] then 2 ^ i else 0)
 | b :: r, 0, _ => by simp [fN]
 | b :: r, i + 1, h => by
  have ih := fN_step r i (by simpa using h)
  simp only [List.take_succ_cons, fN, List.getElem_cons_succ]
  rw [ih]
  have hi : i < r.length := by simpa using h
  by_cases hr : r[i]'hi = true
  ·simp only [hr, if_true, Nat.pow_succ]; split <;> omega
  ·simp only [if_neg hr]; omega
theorem fN_lt : ∀ (l : List Bool), fN l < 2 ^ l.length
 | [] => by simp [fN]
 | b :: r => by
  have := fN_lt r
  simp only [fN, List.length_cons, Nat.pow_succ]
  split <;> omega
def zIy : List Bool → List Bool → Bool
 | [], _ => true
 | b :: r, m :: ms => (!b || m) && zIy r ms
 | b :: r, [] => !b && zIy r []
theorem onlyL_iff : ∀ (l m : List Bool), l.length = m.length → ((fN l ||| fN m = fN m) ↔ zIy l m = true)
 | [], [], _ => by simp [fN, zIy]
 | b :: r, c :: ms, h => by
  have ih := onlyL_iff r ms (by simpa using h)
  simp only [fN, zIy, Bool.and_eq_true, ← ih]
  generalize fN r = x
  generalize fN ms = y
  have hd : ∀ z w : Nat, z = w ↔ z / 2 = w / 2 ∧ z % 2 = w % 2 := fun z w => by omega
  have e1 : ∀ (b : Bool) (z : Nat), ((if b = true then 1 else 0) + 2 * z) / 2 = z := fun b z => by cases b <;> simp <;> omega
  have e2 : ∀ (b : Bool) (z : Nat), ((if b = true then 1 else 0) + 2 * z) % 2 ^ 1 = if b = true then 1 else 0 := fun b z => by cases b <;> simp <;> omega
  rw [hd, Nat.or_div_two, show ∀ z : Nat, z % 2 = z % 2 ^ 1 from fun z => rfl, Nat.or_mod_two_pow, e1, e1, e2, e2]
  cases b <;> cases c <;> simp
 | [], _ :: _, h => by simp at h
 | _ :: _, [], h => by simp at h
theorem ori {p q : Nat} (hp : p < 4096) (hq : q < 4096) : bits .or .i64 (p : Int) (q : Int) = ((p ||| q : Nat) : Int) := by
 have h2 : ∀ z : Nat, z < 4096 → (BitVec.ofInt 64 (z : Int)).toNat = z := fun z hz => by
  rw [BitVec.ofInt_natCast, BitVec.toNat_ofNat]; exact Nat.mod_eq_of_lt oZ
 show IntKind.i64.wrap (((BitVec.ofInt 64 (p : Int) ||| BitVec.ofInt 64 (q : Int)).toNat : Nat) : Int) = _
 rw [BitVec.toNat_or, h2 p hp, h2 q hq]
 have : p ||| q < 2 ^ 12 := Nat.or_lt_two_pow oZ oZ
 exact zCz oZ
def zHu (r : Rec) : List Bool :=
 [!decide (r.name = []), r.many != 0, r.typ != 0, r.frm != 0, r.guid != 0, r.origin != 0, !decide (r.snap = []), decide ((0 : Int) < (r.props.length : Int)), r.object != 0, r.at_ != 0, decide ((0 : Int) < (r.keep.length : Int)), decide ((0 : Int) < (r.data.length : Int))]
abbrev bo (l : List Bool) : List Value := l.map Value.bool
def msk (m : Nat) : List Bool := (List.range 12).map m.testBit
def zFi (r : Rec) (m : Nat) : Bool := zIy (zHu r) (msk m)
end Go.Sl
namespace Go.Proofs.YtbogecljkaimdaaGreatDoor
open Go.Sl
set_option maxRecDepth 10000
section
variable {C : zAl} {r : Rec} {pv kv dv : Value} (hR : RecR C r pv kv dv) (hs : Sml r) {As : List zAl} (hC : C ∈ As) (w0 : World) (H : Hp w0 As)
include hR hs H
theorem ufields_ret : Ret Tryz.prog 77 #[.agg (r.cells pv kv dv).toArray] w0 fun u w' => u = .int .i64 (fN (zHu r) : Nat) ∧ Trs w0 w' As As := by
 have S := St.begin H
 obtain ⟨ad1, c1, rfl⟩ := hR.pr.slice
 obtain ⟨ad2, c2, rfl⟩ := hR.kr.slice
 obtain ⟨ad3, c3, rfl⟩ := hR.dr.slice
 have h1 := hs.props
 have h2 := hs.keep
 have h3 := hs.data
 obtain ⟨fl, hfl⟩ : ∃ fl, fl = zHu r := ⟨_, rfl⟩
 have hll : fl.length = 12 := by rw [hfl]; rfl
 have hflc : bo fl = [.bool !decide (r.name = []), .bool (r.many != 0), .bool (r.typ != 0), .bool (r.frm != 0), .bool (r.guid != 0), .bool (r.origin != 0), .bool !decide (r.snap = []), .bool (decide ((0 : Int) < (r.props.length : Int))), .bool (r.object != 0), .bool (r.at_ != 0), .bool (decide ((0 : Int) < (r.keep.length : Int))), .bool (decide ((0 : Int) < (r.data.length : Int)))] := by rw [hfl]; rfl
 refine zCd 63 Tryz.func77 rfl rfl dZ ?_; intro a E
 refine wp_seq_k ?_; intro K hK
 refine zAa ?_
 refine zAg rfl (zBx E S rfl rfl dZ rfl rfl ?_); clear E S a; intro a w b1 E S
 refine zd E ?_; clear E a; intro a E
 refine wpList_nil ?_
 refine zAb hK ?_; clear hK K
 refine wp_seq_k ?_; intro K hK
 refine zAa ?_
 refine zd E ?_; clear E a; intro a E
 refine wpList_nil ?_
 refine zAb hK ?_; clear hK K
 refine wp_seq_k ?_; intro K hK
 refine zAa ?_
 refine zp E (by first | exact zAc (q := 1) E rfl rfl rfl | exact zAd (q := 1) E rfl rfl rfl) ?_; clear E a; intro a E
 iterate 2 (refine zd E ?_; clear E a; intro a E)
 refine zp E (by first | exact zAc (q := 10) E rfl rfl rfl | exact zAd (q := 10) E rfl rfl rfl) ?_; clear E a; intro a E
 iterate 2 (refine zd E ?_; clear E a; intro a E)
 refine zp E (by first | exact zAc (q := 2) E rfl rfl rfl | exact zAd (q := 2) E rfl rfl rfl) ?_; clear E a; intro a E
 iterate 2 (refine zd E ?_; clear E a; intro a E)
 refine zp E (by first | exact zAc (q := 3) E rfl rfl rfl | exact zAd (q := 3) E rfl rfl rfl) ?_; clear E a; intro a E
 iterate 2 (refine zd E ?_; clear E a; intro a E)
 refine zp E (by first | exact zAc (q := 4) E rfl rfl rfl | exact zAd (q := 4) E rfl rfl rfl) ?_; clear E a; intro a E
 iterate 2 (refine zd E ?_; clear E a; intro a E)
 refine zp E (by first | exact zAc (q := 5) E rfl rfl rfl | exact zAd (q := 5) E rfl rfl rfl) ?_; clear E a; intro a E
 iterate 2 (refine zd E ?_; clear E a; intro a E)
 refine zp E (by first | exact zAc (q := 6) E rfl rfl rfl | exact zAd (q := 6) E rfl rfl rfl) ?_; clear E a; intro a E
 iterate 2 (refine zd E ?_; clear E a; intro a E)
 refine zp E (by first | exact zAc (q := 7) E rfl rfl rfl | exact zAd (q := 7) E rfl rfl rfl) ?_; clear E a; intro a E
 iterate 3 (refine zd E ?_; clear E a; intro a E)
 refine zp E (by first | exact zAc (q := 8) E rfl rfl rfl | exact zAd (q := 8) E rfl rfl rfl) ?_; clear E a; intro a E
 iterate 2 (refine zd E ?_; clear E a; intro a E)
 refine zp E (by first | exact zAc (q := 9) E rfl rfl rfl | exact zAd (q := 9) E rfl rfl rfl) ?_; clear E a; intro a E
 iterate 2 (refine zd E ?_; clear E a; intro a E)
 refine zp E (by first | exact zAc (q := 11) E rfl rfl rfl | exact zAd (q := 11) E rfl rfl rfl) ?_; clear E a; intro a E
 iterate 3 (refine zd E ?_; clear E a; intro a E)
 refine zp E (by first | exact zAc (q := 12) E rfl rfl rfl | exact zAd (q := 12) E rfl rfl rfl) ?_; clear E a; intro a E
 iterate 3 (refine zd E ?_; clear E a; intro a E)
 refine zAg rfl (zCm (cells := [_, _, _, _, _, _, _, _, _, _, _, _]) E S rfl rfl dZ rfl rfl rfl rfl rfl dZ rfl ?_); clear E S a; intro a w b46 E S
 rw [← hflc] at S
 refine zd E ?_; clear E a; intro a E
 refine wpList_nil ?_
 refine zAb hK ?_; clear hK K
 refine wp_seq_k ?_; intro K hK
 replace E := E.keep (e' := [(2, _), (3, _), (4, _)]) (kE3 rfl rfl rfl)
 refine zAa ?_
 refine zd E ?_; clear E a; intro a E
 refine wpList_nil ?_
 refine zAb hK ?_; clear hK K
 iterate 2 (refine wp_seq_k ?_; intro K hK)
 refine zAa ?_
 refine zd E ?_; clear E a; intro a E
 refine wpList_nil ?_
 refine zAb hK ?_; clear hK K
 refine wp_block ?_
 refine wp_loop_ghost (fun (m : Nat) (a : Act) (w' : World) => ∃ i : Nat, m = 12 - i ∧ i ≤ 12 ∧ St w0 As w' ([(b46, cel (bo fl) 4)] :: As) ∧ Fr a 63 [(3, .int .i64 (fN (fl.take i) : Nat)), (4, .slice (some ⟨b46, 0, none⟩) 12 12), (5, .int .i64 (2 ^ i : Nat)), (6, .int .i64 i)]) (12) ?_ ?_
 ·exact ⟨0, by omega, by omega, S.perm2.tail, E.keep (kE4 rfl rfl rfl rfl)⟩
 clear E; clear a; (try clear S); rintro m a w ⟨i, rfl, hi, S, E⟩
 iterate 2 (refine wp_seq_k ?_; intro K hK)
 refine zAa ?_
 iterate 4 (refine zd E ?_; clear E a; intro a E)
 refine wpList_nil ?_
 refine zAb hK ?_; clear hK K
 refine zAs E rfl (fun hb => ?_) (fun hb => ?_)
 ·replace hb := Nrm.nrm hb
  refine wp_skip ?_
  refine zAb hK ?_; clear hK K
  refine wp_seq_k ?_; intro K hK
  refine wp_block ?_
  iterate 2 (refine wp_seq_k ?_; intro K hK)
  have hil : i < fl.length := by omega
  have hst := fN_step fl i hil
  have hlt := fN_lt (fl.take i)
  rw [List.length_take, Nat.min_eq_left oZ] at hlt
  have hp : 2 ^ i ≤ 2048 := Nat.pow_le_pow_right (n := 2) (j := 11) oZ oZ
  have hps : 2 ^ (i + 1) = 2 * 2 ^ i := by rw [Nat.pow_succ, Nat.mul_comm]
  obtain ⟨q, hq⟩ : ∃ q, q = 2 ^ i := ⟨_, rfl⟩
  rw [← hq] at E hp hlt hst hps
  refine zAa ?_
  iterate 2 (refine zd E ?_; clear E a; intro a E)
  refine zp E (by first | exact zAw E rfl rfl rfl rfl rfl rfl oZ | exact zBe E rfl rfl rfl rfl rfl rfl oZ | exact zAu E rfl rfl rfl rfl rfl rfl oZ) ?_; clear E a; intro a E
  refine zp E (zBd E rfl rfl rfl (zCf (S.get pZ) (by rw [Nat.zero_add, List.getElem?_map, List.getElem?_eq_getElem hil]; rfl))) ?_; clear E a; intro a E
  refine wpList_nil ?_
  refine zAb hK ?_; clear hK K
  refine zDd (fun (a : Act) (w' : World) => St w0 As w' ([(b46, cel (bo fl) 4)] :: As) ∧ Fr a 63 [(3, .int .i64 (fN (fl.take (i + 1)) : Nat)), (4, .slice (some ⟨b46, 0, none⟩) 12 12), (5, .int .i64 (q : Nat)), (6, .int .i64 i)]) ?_ ?_
  ·skip
   refine zAs E rfl (fun hb => ?_) (fun hb => ?_)
   ·replace hb := Nrm.nrm hb
    refine zAa ?_
    iterate 2 (refine zd E ?_; clear E a; intro a E)
    refine zp E (zBc E rfl rfl rfl (by first | exact wa1 oZ | exact w_in oZ | exact zBb oZ | exact rfl)) ?_; clear E a; intro a E
    refine zd E ?_; clear E a; intro a E
    refine wpList_nil ?_
    refine zAk ?_
    rw [hst, if_pos hb]; exact ⟨S, E.keep (kE4 rfl rfl rfl rfl)⟩
   ·replace hb := Nrm.nrm hb
    refine wp_skip ?_
    refine zAk ?_
    rw [hst, if_neg (by rw [hb]; decide)]; exact ⟨S, E.keep (kE4 rfl rfl rfl rfl)⟩
  ·clear S E a; intro a w J; obtain ⟨S, E⟩ := J
   refine zAb hK ?_; clear hK K
   refine zAa ?_
   refine zd E ?_; clear E a; intro a E
   refine zp E (zEg E rfl rfl rfl (by first | exact zEq (x := 2) oZ | exact zDx (x := 2) oZ | exact w_in oZ | exact rfl)) ?_; clear E a; intro a E
   refine zd E ?_; clear E a; intro a E
   refine wpList_nil ?_
   refine zAr ?_
   refine zAb hK ?_; clear hK K
   refine zAa ?_
   refine zd E ?_; clear E a; intro a E
   refine zp E (zBc E rfl rfl rfl (by first | exact zBq (y := 1) oZ | exact w_in oZ | exact zBb oZ | exact rfl)) ?_; clear E a; intro a E
   refine zd E ?_; clear E a; intro a E
   refine wpList_nil ?_
   refine zAy ?_
   exact ⟨_, by omega, i + 1, rfl, by omega, S, by rw [hps]; exact E.keep (kE4 rfl rfl rfl rfl)⟩
 ·replace hb := Nrm.nrm hb
  refine wp_exit ?_
  refine zAp ?_; clear hK K
  refine zAp ?_
  refine zBr ?_
  refine zAb hK ?_; clear hK K
  refine wp_seq_k ?_; intro K hK
  refine zAa ?_
  iterate 2 (refine zd E ?_; clear E a; intro a E)
  refine wpList_nil ?_
  refine zAb hK ?_; clear hK K
  refine wp_ret ?_
  refine ret1 E rfl rfl ?_
  obtain rfl : i = 12 := by omega
  rw [List.take_of_length_le oZ, hfl] at E
  exact ⟨_, rfl, by rw [List.take_of_length_le oZ, hfl], S.tail.tr⟩
theorem zFz (m : Nat) (hm : m < 4096) (hmk : fN (msk m) = m) : Ret Tryz.prog 33 #[.agg (r.cells pv kv dv).toArray, .int .i64 m] w0 fun u w' => u = .bool (zFi r m) ∧ Trs w0 w' As As := by
 have S := St.begin H
 obtain ⟨ad1, c1, rfl⟩ := hR.pr.slice
 obtain ⟨ad2, c2, rfl⟩ := hR.kr.slice
 obtain ⟨ad3, c3, rfl⟩ := hR.dr.slice
 have hlt : fN (zHu r) < 4096 := by
  have h := fN_lt (zHu r)
  rw [show (zHu r).length = 12 from rfl] at h
  omega
 obtain ⟨n, hn⟩ : ∃ n, n = fN (zHu r) := ⟨_, rfl⟩
 rw [← hn] at hlt
 have hfin : ((((n ||| m : Nat) : Int) == (m : Int)) : Bool) = zFi r m := by
  rw [Bool.eq_iff_iff, zFi, ← onlyL_iff (zHu r) (msk m) (by simp [zHu, msk]), hmk, ← hn]
  simp only [beq_iff_eq]
  omega
 refine zBt 11 Tryz.func33 rfl rfl dZ ?_; intro a E
 refine wp_seq_k ?_; intro K hK
 refine zAa ?_
 refine zAg rfl (zBx E S rfl rfl dZ rfl rfl ?_); clear E S a; intro a w b2 E S
 refine zd E ?_; clear E a; intro a E
 refine wpList_nil ?_
 refine zAb hK ?_; clear hK K
 refine wp_seq_k ?_; intro K hK
 refine zAa ?_
 refine zp E (zAz (vs := [_, _, _, _, _, _, _, _, _, _, _, _, _]) E rfl rfl rfl (S.get pZ) rfl rfl) ?_; clear E a; intro a E
 refine zAh E rfl rfl dZ rfl Tryz.func77 rfl yZ rfl (ufields_ret hR hs _ S.hp) ?_
 rintro v6 w ⟨he, hT⟩; clear E a; intro a E
 rw [← hn] at he; subst he; have S := S.all hT
 refine zd E ?_; clear E a; intro a E
 refine zp E (zHm E rfl rfl rfl (ori hlt hm)) ?_; clear E a; intro a E
 refine zd E ?_; clear E a; intro a E
 refine zp E (by first | exact rn_eql E rfl rfl rfl | exact rn_neq E rfl rfl rfl) ?_; clear E a; intro a E
 refine zd E ?_; clear E a; intro a E
 refine wpList_nil ?_
 refine zAb hK ?_; clear hK K
 refine wp_ret ?_
 refine ret1 E rfl rfl ?_
 exact ⟨_, rfl, by rw [hfin], S.tail.tr⟩
end
end Go.Proofs.YtbogecljkaimdaaGreatDoor
