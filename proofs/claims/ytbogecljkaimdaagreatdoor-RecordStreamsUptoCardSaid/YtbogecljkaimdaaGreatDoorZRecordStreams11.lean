/-
  Texts put together (11).
-/
import Derived.Test.YtbogecljkaimdaaGreatDoorZRecordStreams10
namespace Go.Sl
section
variable {P : Program} {a : Act} {o : Oper} {n : Nat} {e : List (Nat × Value)} {x y : Operand} {w : World}
theorem equalIn_str {t : TypeId} (d : Nat) (b c : List UInt8) (ht : P.underlying t = some .string) : (Op.equalIn (d + 1) t (str b) (str c)).run P w = .ok (decide (b = c)) w := by
  have h : ((⟨b.toArray⟩ : ByteArray) == ⟨c.toArray⟩) = decide (b = c) := by
    rw [beq_toListBytes, zJj, zJj, zKc]
  simp [Op.equalIn, run_underlying ht, h]
theorem equal_strs {t t0 : TypeId} {fs : Array Field} (ht : P.underlying t = some (.struct fs)) (hp : P.stoodInHeld t = false)
    (hf : fs.toList.map (fun f => (f.name == "_", f.type, f.offset)) = [(false, t0, 0), (false, t0, 1)]) (u0 : P.underlying t0 = some .string) (p q r s : List UInt8) :
    (Op.equalIn 10000 t (.agg #[str p, str q]) (.agg #[str r, str s])).run P w = .ok (decide (p = r) && decide (q = s)) w := by
  have hS : P.underlying t = some (.struct (P.fieldsOf t)) := by simp [Program.fieldsOf, ht]
  have hfs : P.fieldsOf t = fs := by simp [Program.fieldsOf, ht]
  rw [show (10000 : Nat) = 9999 + 1 from rfl, run_equalIn_agg w 9999 t _ _ hS hp, hfs]
  generalize fs.toList = l at hf
  have hl : l.length = 2 := by simpa using congrArg List.length hf
  match l, hl, hf with
  | [f0, f1], _, hf =>
    simp only [List.map_cons, List.map_nil, List.cons.injEq, Prod.mk.injEq, beq_eq_false_iff_ne, ne_eq, and_true] at hf
    obtain ⟨⟨n0, rfl, o0⟩, n1, h1, o1⟩ := hf
    have a0 : (isAgg f0.type).run P w = .ok false w := by simp [isAgg, run_underlying u0]
    have a1 : (isAgg f1.type).run P w = .ok false w := by rw [h1]; exact a0
    have key : ∀ b c : List UInt8, (Op.equalIn 9999 f0.type (str b) (str c)).run P w = .ok (decide (b = c)) w := fun b c => equalIn_str 9998 b c u0
    simp [Op.eqFields, n0, n1, o0, o1, h1, part, a0, key]
    by_cases h1 : p = r <;> by_cases h2 : q = s <;> simp [h1, h2]
theorem rn_neq_strs (E : Fr a n e) {t t' t0 : TypeId} {fs : Array Field} {p q r s : List UInt8} (ho : o.op = .binOp .neq t x y t') (hx : ev e x = some (.agg #[str p, str q])) (hy : ev e y = some (.agg #[str r, str s]))
    (ht : P.underlying t = some (.struct fs)) (hp : P.stoodInHeld t = false) (hm : P.eqGuardType P.depth t = false)
    (hf : fs.toList.map (fun f => (f.name == "_", f.type, f.offset)) = [(false, t0, 0), (false, t0, 1)]) (u0 : P.underlying t0 = some .string) : zBn P o a w (.bool !(decide (p = r) && decide (q = s))) w := by
  have h1 := run_eqGuard_agg (P := P) w .neq t x y #[str p, str q] #[str r, str s] hm
  have h2 : (binOp .neq t (.agg #[str p, str q]) (.agg #[str r, str s])).run P w = .ok (.bool !(decide (p = r) && decide (q = s))) w := by
    rw [run_neq_struct, equal_strs ht hp hf u0]; rfl
  simp [zBn, execOp, ho, E.eval hx, E.eval hy, h1, h2]
end
theorem zLd {α : Type} {l m : List α} {i : Nat} (h : l.take i = m.take i) (hi : i < l.length) (hj : i < m.length) (he : l[i] = m[i]) : l.take (i + 1) = m.take (i + 1) := by
  rw [← List.take_append_getElem hi, ← List.take_append_getElem hj, h, he]
end Go.Sl
namespace Go.Proofs.YtbogecljkaimdaaGreatDoor
open Go.Sl
set_option maxRecDepth 10000
theorem same_ret {Ca Cb : zAy} {ra rb : Rec} {pa ka da pb kb db : Value} (ha : RecR Ca ra pa ka da) (hq : RecR Cb rb pb kb db) (hsa : Sml ra) (As : List zAy) (ma : Ca ∈ As) (mb : Cb ∈ As) (w0 : World) (H : Hp w0 As) :
    Ret Tryz.prog 13 #[.agg (ra.cells pa ka da).toArray, .agg (rb.cells pb kb db).toArray] w0 fun u w' => ∃ z, u = .bool z ∧ (z = true ↔ ra = rb) ∧ Trs w0 w' As As := by
  have S := St.begin H
  have la := hsa.props
  have lb := hsa.keep
  obtain ⟨a1, c1, rfl⟩ := ha.pr.slice
  obtain ⟨a2, c2, rfl⟩ := ha.kr.slice
  obtain ⟨a3, c3, rfl⟩ := ha.dr.slice
  obtain ⟨a4, c4, rfl⟩ := hq.pr.slice
  obtain ⟨a5, c5, rfl⟩ := hq.kr.slice
  obtain ⟨a6, c6, rfl⟩ := hq.dr.slice
  refine zCr 136 Tryz.func13 rfl rfl (by decide) ?_; intro a E
  refine wp_seq_k ?_; intro K hK
  refine zAb ?_
  refine zAn rfl (zCt E S rfl rfl (by decide) rfl rfl ?_); clear E S a; intro a w b2 E S
  refine zAn rfl (zCt E S rfl rfl (by decide) rfl rfl ?_); clear E S a; intro a w b3 E S
  refine zp E (zAd E rfl rfl) ?_; clear E a; intro a E
  refine wpList_nil ?_
  refine zAf hK ?_; clear hK; clear K
  iterate 2 (refine wp_seq_k ?_; intro K hK)
  refine zAb ?_
  refine zp E (by first | exact zAg (q := 0) E rfl rfl rfl | exact zAh (q := 0) E rfl rfl rfl) ?_; clear E a; intro a E
  refine zp E (by first | exact zAo E rfl rfl rfl (S.get (by repeat (first | exact pk1 | apply zAc))) rfl | exact zAj E rfl rfl rfl (by assumption)) ?_; clear E a; intro a E
  refine zp E (by first | exact zAg (q := 0) E rfl rfl rfl | exact zAh (q := 0) E rfl rfl rfl) ?_; clear E a; intro a E
  refine zp E (by first | exact zAo E rfl rfl rfl (S.get (by repeat (first | exact pk1 | apply zAc))) rfl | exact zAj E rfl rfl rfl (by assumption)) ?_; clear E a; intro a E
  refine zp E (by first | exact zCu E rfl rfl rfl | exact zBg E rfl rfl rfl rfl | exact zBr E rfl rfl rfl rfl | exact zBk E rfl rfl rfl) ?_; clear E a; intro a E
  refine zp E (zAe E rfl rfl) ?_; clear E a; intro a E
  refine zAs E (t := 12) rfl (fun hb12 => ?_) (fun hb12 => ?_)
  · have hb12n := hb12; replace hb12n := Nrm.nrm hb12n
    iterate 5 (refine zn E hb12 ?_; clear E a; intro a E)
    refine zp E (zAl E rfl rfl hb12 rfl) ?_; clear E a; intro a E
    refine zp E (zAe E rfl rfl) ?_; clear E a; intro a E
    iterate 5 (refine zn E rfl ?_; clear E a; intro a E)
    refine zp E (zAl E rfl rfl rfl rfl) ?_; clear E a; intro a E
    refine zp E (zAe E rfl rfl) ?_; clear E a; intro a E
    iterate 5 (refine zn E rfl ?_; clear E a; intro a E)
    refine zp E (zAl E rfl rfl rfl rfl) ?_; clear E a; intro a E
    refine zp E (zAe E rfl rfl) ?_; clear E a; intro a E
    iterate 5 (refine zn E rfl ?_; clear E a; intro a E)
    refine zp E (zAl E rfl rfl rfl rfl) ?_; clear E a; intro a E
    refine zp E (zAe E rfl rfl) ?_; clear E a; intro a E
    iterate 5 (refine zn E rfl ?_; clear E a; intro a E)
    refine zp E (zAl E rfl rfl rfl rfl) ?_; clear E a; intro a E
    refine zp E (zAe E rfl rfl) ?_; clear E a; intro a E
    iterate 5 (refine zn E rfl ?_; clear E a; intro a E)
    refine zp E (zAl E rfl rfl rfl rfl) ?_; clear E a; intro a E
    refine wpList_nil ?_
    refine zAf hK ?_; clear hK; clear K
    refine zCi E rfl rfl ?_
    refine wp_seq_k ?_; intro K hK
    replace E := E.keep (e' := [(2, _), (3, _), (4, _)]) (zAa rfl (zAa rfl (zAa rfl (zAm))))
    refine zAb ?_
    refine zp E (zAd E rfl rfl) ?_; clear E a; intro a E
    refine wpList_nil ?_
    refine zAf hK ?_; clear hK; clear K
    refine wp_ret ?_
    refine zAv ?_; clear hK; clear K
    refine ret1 E rfl rfl ?_
    exact ⟨_, rfl, _, rfl, ⟨fun q => Bool.noConfusion q, by rintro rfl; first | exact absurd rfl hb12n | exact absurd rfl hb26n | exact absurd rfl hb33n | exact absurd rfl hb40n | exact absurd rfl hb47n | (simp at hb19; done) | (simp at hb; done)⟩, S.tail2.tr⟩
  · have hb12n := hb12; replace hb12n := Nrm.nrm hb12n
    refine zy E hb12 (by first | exact zAg (q := 1) E rfl rfl rfl | exact zAh (q := 1) E rfl rfl rfl) ?_; clear E a; intro a E
    refine zy E hb12 (by first | exact zAo E rfl rfl rfl (S.get (by repeat (first | exact pk1 | apply zAc))) rfl | exact zAj E rfl rfl rfl (by assumption)) ?_; clear E a; intro a E
    refine zy E hb12 (by first | exact zAg (q := 1) E rfl rfl rfl | exact zAh (q := 1) E rfl rfl rfl) ?_; clear E a; intro a E
    refine zy E hb12 (by first | exact zAo E rfl rfl rfl (S.get (by repeat (first | exact pk1 | apply zAc))) rfl | exact zAj E rfl rfl rfl (by assumption)) ?_; clear E a; intro a E
    refine zy E hb12 (by first | exact zCu E rfl rfl rfl | exact zBg E rfl rfl rfl rfl | exact zBr E rfl rfl rfl rfl | exact zBk E rfl rfl rfl) ?_; clear E a; intro a E
    refine zp E (zAi E rfl rfl hb12 rfl) ?_; clear E a; intro a E
    refine zp E (zAe E rfl rfl) ?_; clear E a; intro a E
    refine zAs E (t := 19) rfl (fun hb19 => ?_) (fun hb19 => ?_)
    · have hb19n := hb19; replace hb19n := Nrm.nrm hb19n
      iterate 5 (refine zn E hb19 ?_; clear E a; intro a E)
      refine zp E (zAl E rfl rfl hb19 rfl) ?_; clear E a; intro a E
      refine zp E (zAe E rfl rfl) ?_; clear E a; intro a E
      iterate 5 (refine zn E rfl ?_; clear E a; intro a E)
      refine zp E (zAl E rfl rfl rfl rfl) ?_; clear E a; intro a E
      refine zp E (zAe E rfl rfl) ?_; clear E a; intro a E
      iterate 5 (refine zn E rfl ?_; clear E a; intro a E)
      refine zp E (zAl E rfl rfl rfl rfl) ?_; clear E a; intro a E
      refine zp E (zAe E rfl rfl) ?_; clear E a; intro a E
      iterate 5 (refine zn E rfl ?_; clear E a; intro a E)
      refine zp E (zAl E rfl rfl rfl rfl) ?_; clear E a; intro a E
      refine zp E (zAe E rfl rfl) ?_; clear E a; intro a E
      iterate 5 (refine zn E rfl ?_; clear E a; intro a E)
      refine zp E (zAl E rfl rfl rfl rfl) ?_; clear E a; intro a E
      refine wpList_nil ?_
      refine zAf hK ?_; clear hK; clear K
      refine zCi E rfl rfl ?_
      refine wp_seq_k ?_; intro K hK
      replace E := E.keep (e' := [(2, _), (3, _), (4, _)]) (zAa rfl (zAa rfl (zAa rfl (zAm))))
      refine zAb ?_
      refine zp E (zAd E rfl rfl) ?_; clear E a; intro a E
      refine wpList_nil ?_
      refine zAf hK ?_; clear hK; clear K
      refine wp_ret ?_
      refine zAv ?_; clear hK; clear K
      refine ret1 E rfl rfl ?_
      exact ⟨_, rfl, _, rfl, ⟨fun q => Bool.noConfusion q, by rintro rfl; first | exact absurd rfl hb12n | exact absurd rfl hb26n | exact absurd rfl hb33n | exact absurd rfl hb40n | exact absurd rfl hb47n | (simp at hb19; done) | (simp at hb; done)⟩, S.tail2.tr⟩
    · have hb19n := hb19; replace hb19n := Nrm.nrm hb19n
      refine zy E hb19 (by first | exact zAg (q := 2) E rfl rfl rfl | exact zAh (q := 2) E rfl rfl rfl) ?_; clear E a; intro a E
      refine zy E hb19 (by first | exact zAo E rfl rfl rfl (S.get (by repeat (first | exact pk1 | apply zAc))) rfl | exact zAj E rfl rfl rfl (by assumption)) ?_; clear E a; intro a E
      refine zy E hb19 (by first | exact zAg (q := 2) E rfl rfl rfl | exact zAh (q := 2) E rfl rfl rfl) ?_; clear E a; intro a E
      refine zy E hb19 (by first | exact zAo E rfl rfl rfl (S.get (by repeat (first | exact pk1 | apply zAc))) rfl | exact zAj E rfl rfl rfl (by assumption)) ?_; clear E a; intro a E
      refine zy E hb19 (by first | exact zCu E rfl rfl rfl | exact zBg E rfl rfl rfl rfl | exact zBr E rfl rfl rfl rfl | exact zBk E rfl rfl rfl) ?_; clear E a; intro a E
      refine zp E (zAi E rfl rfl hb19 rfl) ?_; clear E a; intro a E
      refine zp E (zAe E rfl rfl) ?_; clear E a; intro a E
      refine zAs E (t := 26) rfl (fun hb26 => ?_) (fun hb26 => ?_)
      · have hb26n := hb26; replace hb26n := Nrm.nrm hb26n
        iterate 5 (refine zn E hb26 ?_; clear E a; intro a E)
        refine zp E (zAl E rfl rfl hb26 rfl) ?_; clear E a; intro a E
        refine zp E (zAe E rfl rfl) ?_; clear E a; intro a E
        iterate 5 (refine zn E rfl ?_; clear E a; intro a E)
        refine zp E (zAl E rfl rfl rfl rfl) ?_; clear E a; intro a E
        refine zp E (zAe E rfl rfl) ?_; clear E a; intro a E
        iterate 5 (refine zn E rfl ?_; clear E a; intro a E)
        refine zp E (zAl E rfl rfl rfl rfl) ?_; clear E a; intro a E
        refine zp E (zAe E rfl rfl) ?_; clear E a; intro a E
        iterate 5 (refine zn E rfl ?_; clear E a; intro a E)
        refine zp E (zAl E rfl rfl rfl rfl) ?_; clear E a; intro a E
        refine wpList_nil ?_
        refine zAf hK ?_; clear hK; clear K
        refine zCi E rfl rfl ?_
        refine wp_seq_k ?_; intro K hK
        replace E := E.keep (e' := [(2, _), (3, _), (4, _)]) (zAa rfl (zAa rfl (zAa rfl (zAm))))
        refine zAb ?_
        refine zp E (zAd E rfl rfl) ?_; clear E a; intro a E
        refine wpList_nil ?_
        refine zAf hK ?_; clear hK; clear K
        refine wp_ret ?_
        refine zAv ?_; clear hK; clear K
        refine ret1 E rfl rfl ?_
        exact ⟨_, rfl, _, rfl, ⟨fun q => Bool.noConfusion q, by rintro rfl; first | exact absurd rfl hb12n | exact absurd rfl hb26n | exact absurd rfl hb33n | exact absurd rfl hb40n | exact absurd rfl hb47n | (simp at hb19; done) | (simp at hb; done)⟩, S.tail2.tr⟩
      · have hb26n := hb26; replace hb26n := Nrm.nrm hb26n
        refine zy E hb26 (by first | exact zAg (q := 3) E rfl rfl rfl | exact zAh (q := 3) E rfl rfl rfl) ?_; clear E a; intro a E
        refine zy E hb26 (by first | exact zAo E rfl rfl rfl (S.get (by repeat (first | exact pk1 | apply zAc))) rfl | exact zAj E rfl rfl rfl (by assumption)) ?_; clear E a; intro a E
        refine zy E hb26 (by first | exact zAg (q := 3) E rfl rfl rfl | exact zAh (q := 3) E rfl rfl rfl) ?_; clear E a; intro a E
        refine zy E hb26 (by first | exact zAo E rfl rfl rfl (S.get (by repeat (first | exact pk1 | apply zAc))) rfl | exact zAj E rfl rfl rfl (by assumption)) ?_; clear E a; intro a E
        refine zy E hb26 (by first | exact zCu E rfl rfl rfl | exact zBg E rfl rfl rfl rfl | exact zBr E rfl rfl rfl rfl | exact zBk E rfl rfl rfl) ?_; clear E a; intro a E
        refine zp E (zAi E rfl rfl hb26 rfl) ?_; clear E a; intro a E
        refine zp E (zAe E rfl rfl) ?_; clear E a; intro a E
        refine zAs E (t := 33) rfl (fun hb33 => ?_) (fun hb33 => ?_)
        · have hb33n := hb33; replace hb33n := Nrm.nrm hb33n
          iterate 5 (refine zn E hb33 ?_; clear E a; intro a E)
          refine zp E (zAl E rfl rfl hb33 rfl) ?_; clear E a; intro a E
          refine zp E (zAe E rfl rfl) ?_; clear E a; intro a E
          iterate 5 (refine zn E rfl ?_; clear E a; intro a E)
          refine zp E (zAl E rfl rfl rfl rfl) ?_; clear E a; intro a E
          refine zp E (zAe E rfl rfl) ?_; clear E a; intro a E
          iterate 5 (refine zn E rfl ?_; clear E a; intro a E)
          refine zp E (zAl E rfl rfl rfl rfl) ?_; clear E a; intro a E
          refine wpList_nil ?_
          refine zAf hK ?_; clear hK; clear K
          refine zCi E rfl rfl ?_
          refine wp_seq_k ?_; intro K hK
          replace E := E.keep (e' := [(2, _), (3, _), (4, _)]) (zAa rfl (zAa rfl (zAa rfl (zAm))))
          refine zAb ?_
          refine zp E (zAd E rfl rfl) ?_; clear E a; intro a E
          refine wpList_nil ?_
          refine zAf hK ?_; clear hK; clear K
          refine wp_ret ?_
          refine zAv ?_; clear hK; clear K
          refine ret1 E rfl rfl ?_
          exact ⟨_, rfl, _, rfl, ⟨fun q => Bool.noConfusion q, by rintro rfl; first | exact absurd rfl hb12n | exact absurd rfl hb26n | exact absurd rfl hb33n | exact absurd rfl hb40n | exact absurd rfl hb47n | (simp at hb19; done) | (simp at hb; done)⟩, S.tail2.tr⟩
        · have hb33n := hb33; replace hb33n := Nrm.nrm hb33n
          refine zy E hb33 (by first | exact zAg (q := 4) E rfl rfl rfl | exact zAh (q := 4) E rfl rfl rfl) ?_; clear E a; intro a E
          refine zy E hb33 (by first | exact zAo E rfl rfl rfl (S.get (by repeat (first | exact pk1 | apply zAc))) rfl | exact zAj E rfl rfl rfl (by assumption)) ?_; clear E a; intro a E
          refine zy E hb33 (by first | exact zAg (q := 4) E rfl rfl rfl | exact zAh (q := 4) E rfl rfl rfl) ?_; clear E a; intro a E
          refine zy E hb33 (by first | exact zAo E rfl rfl rfl (S.get (by repeat (first | exact pk1 | apply zAc))) rfl | exact zAj E rfl rfl rfl (by assumption)) ?_; clear E a; intro a E
          refine zy E hb33 (by first | exact zCu E rfl rfl rfl | exact zBg E rfl rfl rfl rfl | exact zBr E rfl rfl rfl rfl | exact zBk E rfl rfl rfl) ?_; clear E a; intro a E
          refine zp E (zAi E rfl rfl hb33 rfl) ?_; clear E a; intro a E
          refine zp E (zAe E rfl rfl) ?_; clear E a; intro a E
          refine zAs E (t := 40) rfl (fun hb40 => ?_) (fun hb40 => ?_)
          · have hb40n := hb40; replace hb40n := Nrm.nrm hb40n
            iterate 5 (refine zn E hb40 ?_; clear E a; intro a E)
            refine zp E (zAl E rfl rfl hb40 rfl) ?_; clear E a; intro a E
            refine zp E (zAe E rfl rfl) ?_; clear E a; intro a E
            iterate 5 (refine zn E rfl ?_; clear E a; intro a E)
            refine zp E (zAl E rfl rfl rfl rfl) ?_; clear E a; intro a E
            refine wpList_nil ?_
            refine zAf hK ?_; clear hK; clear K
            refine zCi E rfl rfl ?_
            refine wp_seq_k ?_; intro K hK
            replace E := E.keep (e' := [(2, _), (3, _), (4, _)]) (zAa rfl (zAa rfl (zAa rfl (zAm))))
            refine zAb ?_
            refine zp E (zAd E rfl rfl) ?_; clear E a; intro a E
            refine wpList_nil ?_
            refine zAf hK ?_; clear hK; clear K
            refine wp_ret ?_
            refine zAv ?_; clear hK; clear K
            refine ret1 E rfl rfl ?_
            exact ⟨_, rfl, _, rfl, ⟨fun q => Bool.noConfusion q, by rintro rfl; first | exact absurd rfl hb12n | exact absurd rfl hb26n | exact absurd rfl hb33n | exact absurd rfl hb40n | exact absurd rfl hb47n | (simp at hb19; done) | (simp at hb; done)⟩, S.tail2.tr⟩
          · have hb40n := hb40; replace hb40n := Nrm.nrm hb40n
            refine zy E hb40 (by first | exact zAg (q := 5) E rfl rfl rfl | exact zAh (q := 5) E rfl rfl rfl) ?_; clear E a; intro a E
            refine zy E hb40 (by first | exact zAo E rfl rfl rfl (S.get (by repeat (first | exact pk1 | apply zAc))) rfl | exact zAj E rfl rfl rfl (by assumption)) ?_; clear E a; intro a E
            refine zy E hb40 (by first | exact zAg (q := 5) E rfl rfl rfl | exact zAh (q := 5) E rfl rfl rfl) ?_; clear E a; intro a E
            refine zy E hb40 (by first | exact zAo E rfl rfl rfl (S.get (by repeat (first | exact pk1 | apply zAc))) rfl | exact zAj E rfl rfl rfl (by assumption)) ?_; clear E a; intro a E
            refine zy E hb40 (by first | exact zCu E rfl rfl rfl | exact zBg E rfl rfl rfl rfl | exact zBr E rfl rfl rfl rfl | exact zBk E rfl rfl rfl) ?_; clear E a; intro a E
            refine zp E (zAi E rfl rfl hb40 rfl) ?_; clear E a; intro a E
            refine zp E (zAe E rfl rfl) ?_; clear E a; intro a E
            refine zAs E (t := 47) rfl (fun hb47 => ?_) (fun hb47 => ?_)
            · have hb47n := hb47; replace hb47n := Nrm.nrm hb47n
              iterate 5 (refine zn E hb47 ?_; clear E a; intro a E)
              refine zp E (zAl E rfl rfl hb47 rfl) ?_; clear E a; intro a E
              refine wpList_nil ?_
              refine zAf hK ?_; clear hK; clear K
              refine zCi E rfl rfl ?_
              refine wp_seq_k ?_; intro K hK
              replace E := E.keep (e' := [(2, _), (3, _), (4, _)]) (zAa rfl (zAa rfl (zAa rfl (zAm))))
              refine zAb ?_
              refine zp E (zAd E rfl rfl) ?_; clear E a; intro a E
              refine wpList_nil ?_
              refine zAf hK ?_; clear hK; clear K
              refine wp_ret ?_
              refine zAv ?_; clear hK; clear K
              refine ret1 E rfl rfl ?_
              exact ⟨_, rfl, _, rfl, ⟨fun q => Bool.noConfusion q, by rintro rfl; first | exact absurd rfl hb12n | exact absurd rfl hb26n | exact absurd rfl hb33n | exact absurd rfl hb40n | exact absurd rfl hb47n | (simp at hb19; done) | (simp at hb; done)⟩, S.tail2.tr⟩
            · have hb47n := hb47; replace hb47n := Nrm.nrm hb47n
              refine zy E hb47 (by first | exact zAg (q := 6) E rfl rfl rfl | exact zAh (q := 6) E rfl rfl rfl) ?_; clear E a; intro a E
              refine zy E hb47 (by first | exact zAo E rfl rfl rfl (S.get (by repeat (first | exact pk1 | apply zAc))) rfl | exact zAj E rfl rfl rfl (by assumption)) ?_; clear E a; intro a E
              refine zy E hb47 (by first | exact zAg (q := 6) E rfl rfl rfl | exact zAh (q := 6) E rfl rfl rfl) ?_; clear E a; intro a E
              refine zy E hb47 (by first | exact zAo E rfl rfl rfl (S.get (by repeat (first | exact pk1 | apply zAc))) rfl | exact zAj E rfl rfl rfl (by assumption)) ?_; clear E a; intro a E
              refine zy E hb47 (by first | exact zCu E rfl rfl rfl | exact zBg E rfl rfl rfl rfl | exact zBr E rfl rfl rfl rfl | exact zBk E rfl rfl rfl) ?_; clear E a; intro a E
              refine zp E (zAi E rfl rfl hb47 rfl) ?_; clear E a; intro a E
              refine wpList_nil ?_
              refine zAf hK ?_; clear hK; clear K
              refine zBf E rfl (fun hb => ?_) (fun hb => ?_)
              · replace hb := Nrm.nrm hb
                refine wp_seq_k ?_; intro K hK
                replace E := E.keep (e' := [(2, _), (3, _), (4, _)]) (zAa rfl (zAa rfl (zAa rfl (zAm))))
                refine zAb ?_
                refine zp E (zAd E rfl rfl) ?_; clear E a; intro a E
                refine wpList_nil ?_
                refine zAf hK ?_; clear hK; clear K
                refine wp_ret ?_
                refine zAv ?_; clear hK; clear K
                refine ret1 E rfl rfl ?_
                exact ⟨_, rfl, _, rfl, ⟨fun q => Bool.noConfusion q, by rintro rfl; first | exact absurd rfl hb12n | exact absurd rfl hb26n | exact absurd rfl hb33n | exact absurd rfl hb40n | exact absurd rfl hb47n | (simp at hb19; done) | (simp at hb; done)⟩, S.tail2.tr⟩
              · replace hb := Nrm.nrm hb
                have hsn := hb
                refine wp_skip ?_
                refine zAf hK ?_; clear hK; clear K
                iterate 2 (refine wp_seq_k ?_; intro K hK)
                replace E := E.keep (e' := [(2, _), (3, _), (4, _)]) (zAa rfl (zAa rfl (zAa rfl (zAm))))
                refine zAb ?_
                refine zp E (by first | exact zAg (q := 8) E rfl rfl rfl | exact zAh (q := 8) E rfl rfl rfl) ?_; clear E a; intro a E
                refine zp E (by first | exact zAo E rfl rfl rfl (S.get (by repeat (first | exact pk1 | apply zAc))) rfl | exact zAj E rfl rfl rfl (by assumption)) ?_; clear E a; intro a E
                refine zp E (by first | exact zAg (q := 8) E rfl rfl rfl | exact zAh (q := 8) E rfl rfl rfl) ?_; clear E a; intro a E
                refine zp E (by first | exact zAo E rfl rfl rfl (S.get (by repeat (first | exact pk1 | apply zAc))) rfl | exact zAj E rfl rfl rfl (by assumption)) ?_; clear E a; intro a E
                refine zp E (by first | exact zCu E rfl rfl rfl | exact zBg E rfl rfl rfl rfl | exact zBr E rfl rfl rfl rfl | exact zBk E rfl rfl rfl) ?_; clear E a; intro a E
                refine zp E (zAe E rfl rfl) ?_; clear E a; intro a E
                refine zAs E (t := 59) rfl (fun hb59 => ?_) (fun hb59 => ?_)
                · have hb59n := hb59; replace hb59n := Nrm.nrm hb59n
                  iterate 5 (refine zn E hb59 ?_; clear E a; intro a E)
                  refine zp E (zAl E rfl rfl hb59 rfl) ?_; clear E a; intro a E
                  refine zp E (zAe E rfl rfl) ?_; clear E a; intro a E
                  iterate 5 (refine zn E rfl ?_; clear E a; intro a E)
                  refine zp E (zAl E rfl rfl rfl rfl) ?_; clear E a; intro a E
                  refine zp E (zAe E rfl rfl) ?_; clear E a; intro a E
                  iterate 7 (refine zn E rfl ?_; clear E a; intro a E)
                  refine zp E (zAl E rfl rfl rfl rfl) ?_; clear E a; intro a E
                  refine zp E (zAe E rfl rfl) ?_; clear E a; intro a E
                  iterate 7 (refine zn E rfl ?_; clear E a; intro a E)
                  refine zp E (zAl E rfl rfl rfl rfl) ?_; clear E a; intro a E
                  refine zp E (zAe E rfl rfl) ?_; clear E a; intro a E
                  iterate 7 (refine zn E rfl ?_; clear E a; intro a E)
                  refine zp E (zAl E rfl rfl rfl rfl) ?_; clear E a; intro a E
                  refine wpList_nil ?_
                  refine zAf hK ?_; clear hK; clear K
                  refine zCi E rfl rfl ?_
                  refine wp_seq_k ?_; intro K hK
                  replace E := E.keep (e' := [(2, _), (3, _), (4, _)]) (zAa rfl (zAa rfl (zAa rfl (zAm))))
                  refine zAb ?_
                  refine zp E (zAd E rfl rfl) ?_; clear E a; intro a E
                  refine wpList_nil ?_
                  refine zAf hK ?_; clear hK; clear K
                  refine wp_ret ?_
                  refine zAv ?_; clear hK; clear K
                  refine ret1 E rfl rfl ?_
                  exact ⟨_, rfl, _, rfl, ⟨fun q => Bool.noConfusion q, by rintro rfl; first | exact absurd rfl hb59n | exact absurd rfl hb66n | exact absurd rfl hb73n | exact absurd rfl hb82n | exact absurd rfl hb91n | (simp at hb; done)⟩, S.tail2.tr⟩
                · have hb59n := hb59; replace hb59n := Nrm.nrm hb59n
                  refine zy E hb59 (by first | exact zAg (q := 9) E rfl rfl rfl | exact zAh (q := 9) E rfl rfl rfl) ?_; clear E a; intro a E
                  refine zy E hb59 (by first | exact zAo E rfl rfl rfl (S.get (by repeat (first | exact pk1 | apply zAc))) rfl | exact zAj E rfl rfl rfl (by assumption)) ?_; clear E a; intro a E
                  refine zy E hb59 (by first | exact zAg (q := 9) E rfl rfl rfl | exact zAh (q := 9) E rfl rfl rfl) ?_; clear E a; intro a E
                  refine zy E hb59 (by first | exact zAo E rfl rfl rfl (S.get (by repeat (first | exact pk1 | apply zAc))) rfl | exact zAj E rfl rfl rfl (by assumption)) ?_; clear E a; intro a E
                  refine zy E hb59 (by first | exact zCu E rfl rfl rfl | exact zBg E rfl rfl rfl rfl | exact zBr E rfl rfl rfl rfl | exact zBk E rfl rfl rfl) ?_; clear E a; intro a E
                  refine zp E (zAi E rfl rfl hb59 rfl) ?_; clear E a; intro a E
                  refine zp E (zAe E rfl rfl) ?_; clear E a; intro a E
                  refine zAs E (t := 66) rfl (fun hb66 => ?_) (fun hb66 => ?_)
                  · have hb66n := hb66; replace hb66n := Nrm.nrm hb66n
                    iterate 5 (refine zn E hb66 ?_; clear E a; intro a E)
                    refine zp E (zAl E rfl rfl hb66 rfl) ?_; clear E a; intro a E
                    refine zp E (zAe E rfl rfl) ?_; clear E a; intro a E
                    iterate 7 (refine zn E rfl ?_; clear E a; intro a E)
                    refine zp E (zAl E rfl rfl rfl rfl) ?_; clear E a; intro a E
                    refine zp E (zAe E rfl rfl) ?_; clear E a; intro a E
                    iterate 7 (refine zn E rfl ?_; clear E a; intro a E)
                    refine zp E (zAl E rfl rfl rfl rfl) ?_; clear E a; intro a E
                    refine zp E (zAe E rfl rfl) ?_; clear E a; intro a E
                    iterate 7 (refine zn E rfl ?_; clear E a; intro a E)
                    refine zp E (zAl E rfl rfl rfl rfl) ?_; clear E a; intro a E
                    refine wpList_nil ?_
                    refine zAf hK ?_; clear hK; clear K
                    refine zCi E rfl rfl ?_
                    refine wp_seq_k ?_; intro K hK
                    replace E := E.keep (e' := [(2, _), (3, _), (4, _)]) (zAa rfl (zAa rfl (zAa rfl (zAm))))
                    refine zAb ?_
                    refine zp E (zAd E rfl rfl) ?_; clear E a; intro a E
                    refine wpList_nil ?_
                    refine zAf hK ?_; clear hK; clear K
                    refine wp_ret ?_
                    refine zAv ?_; clear hK; clear K
                    refine ret1 E rfl rfl ?_
                    exact ⟨_, rfl, _, rfl, ⟨fun q => Bool.noConfusion q, by rintro rfl; first | exact absurd rfl hb59n | exact absurd rfl hb66n | exact absurd rfl hb73n | exact absurd rfl hb82n | exact absurd rfl hb91n | (simp at hb; done)⟩, S.tail2.tr⟩
                  · have hb66n := hb66; replace hb66n := Nrm.nrm hb66n
                    refine zy E hb66 (by first | exact zAg (q := 10) E rfl rfl rfl | exact zAh (q := 10) E rfl rfl rfl) ?_; clear E a; intro a E
                    refine zy E hb66 (by first | exact zAo E rfl rfl rfl (S.get (by repeat (first | exact pk1 | apply zAc))) rfl | exact zAj E rfl rfl rfl (by assumption)) ?_; clear E a; intro a E
                    refine zy E hb66 (by first | exact zAg (q := 10) E rfl rfl rfl | exact zAh (q := 10) E rfl rfl rfl) ?_; clear E a; intro a E
                    refine zy E hb66 (by first | exact zAo E rfl rfl rfl (S.get (by repeat (first | exact pk1 | apply zAc))) rfl | exact zAj E rfl rfl rfl (by assumption)) ?_; clear E a; intro a E
                    refine zy E hb66 (by first | exact zCu E rfl rfl rfl | exact zBg E rfl rfl rfl rfl | exact zBr E rfl rfl rfl rfl | exact zBk E rfl rfl rfl) ?_; clear E a; intro a E
                    refine zp E (zAi E rfl rfl hb66 rfl) ?_; clear E a; intro a E
                    refine zp E (zAe E rfl rfl) ?_; clear E a; intro a E
                    refine zAs E (t := 73) rfl (fun hb73 => ?_) (fun hb73 => ?_)
                    · have hb73n := hb73; replace hb73n := Nrm.nrm hb73n
                      iterate 7 (refine zn E hb73 ?_; clear E a; intro a E)
                      refine zp E (zAl E rfl rfl hb73 rfl) ?_; clear E a; intro a E
                      refine zp E (zAe E rfl rfl) ?_; clear E a; intro a E
                      iterate 7 (refine zn E rfl ?_; clear E a; intro a E)
                      refine zp E (zAl E rfl rfl rfl rfl) ?_; clear E a; intro a E
                      refine zp E (zAe E rfl rfl) ?_; clear E a; intro a E
                      iterate 7 (refine zn E rfl ?_; clear E a; intro a E)
                      refine zp E (zAl E rfl rfl rfl rfl) ?_; clear E a; intro a E
                      refine wpList_nil ?_
                      refine zAf hK ?_; clear hK; clear K
                      refine zCi E rfl rfl ?_
                      refine wp_seq_k ?_; intro K hK
                      replace E := E.keep (e' := [(2, _), (3, _), (4, _)]) (zAa rfl (zAa rfl (zAa rfl (zAm))))
                      refine zAb ?_
                      refine zp E (zAd E rfl rfl) ?_; clear E a; intro a E
                      refine wpList_nil ?_
                      refine zAf hK ?_; clear hK; clear K
                      refine wp_ret ?_
                      refine zAv ?_; clear hK; clear K
                      refine ret1 E rfl rfl ?_
                      exact ⟨_, rfl, _, rfl, ⟨fun q => Bool.noConfusion q, by rintro rfl; first | exact absurd rfl hb59n | exact absurd rfl hb66n | exact absurd rfl hb73n | exact absurd rfl hb82n | exact absurd rfl hb91n | (simp at hb; done)⟩, S.tail2.tr⟩
                    · have hb73n := hb73; replace hb73n := Nrm.nrm hb73n
                      refine zy E hb73 (by first | exact zAg (q := 7) E rfl rfl rfl | exact zAh (q := 7) E rfl rfl rfl) ?_; clear E a; intro a E
                      refine zy E hb73 (by first | exact zAo E rfl rfl rfl (S.get (by repeat (first | exact pk1 | apply zAc))) rfl | exact zAj E rfl rfl rfl (by assumption)) ?_; clear E a; intro a E
                      refine zy E hb73 (by first | exact zBx E rfl rfl rfl | exact zAx E rfl rfl rfl | exact zAq E rfl rfl rfl) ?_; clear E a; intro a E
                      refine zy E hb73 (by first | exact zAg (q := 7) E rfl rfl rfl | exact zAh (q := 7) E rfl rfl rfl) ?_; clear E a; intro a E
                      refine zy E hb73 (by first | exact zAo E rfl rfl rfl (S.get (by repeat (first | exact pk1 | apply zAc))) rfl | exact zAj E rfl rfl rfl (by assumption)) ?_; clear E a; intro a E
                      refine zy E hb73 (by first | exact zBx E rfl rfl rfl | exact zAx E rfl rfl rfl | exact zAq E rfl rfl rfl) ?_; clear E a; intro a E
                      refine zy E hb73 (by first | exact zCu E rfl rfl rfl | exact zBg E rfl rfl rfl rfl | exact zBr E rfl rfl rfl rfl | exact zBk E rfl rfl rfl) ?_; clear E a; intro a E
                      refine zp E (zAi E rfl rfl hb73 rfl) ?_; clear E a; intro a E
                      refine zp E (zAe E rfl rfl) ?_; clear E a; intro a E
                      refine zAs E (t := 82) rfl (fun hb82 => ?_) (fun hb82 => ?_)
                      · have hb82n := hb82; replace hb82n := Nrm.nrm hb82n
                        iterate 7 (refine zn E hb82 ?_; clear E a; intro a E)
                        refine zp E (zAl E rfl rfl hb82 rfl) ?_; clear E a; intro a E
                        refine zp E (zAe E rfl rfl) ?_; clear E a; intro a E
                        iterate 7 (refine zn E rfl ?_; clear E a; intro a E)
                        refine zp E (zAl E rfl rfl rfl rfl) ?_; clear E a; intro a E
                        refine wpList_nil ?_
                        refine zAf hK ?_; clear hK; clear K
                        refine zCi E rfl rfl ?_
                        refine wp_seq_k ?_; intro K hK
                        replace E := E.keep (e' := [(2, _), (3, _), (4, _)]) (zAa rfl (zAa rfl (zAa rfl (zAm))))
                        refine zAb ?_
                        refine zp E (zAd E rfl rfl) ?_; clear E a; intro a E
                        refine wpList_nil ?_
                        refine zAf hK ?_; clear hK; clear K
                        refine wp_ret ?_
                        refine zAv ?_; clear hK; clear K
                        refine ret1 E rfl rfl ?_
                        exact ⟨_, rfl, _, rfl, ⟨fun q => Bool.noConfusion q, by rintro rfl; first | exact absurd rfl hb59n | exact absurd rfl hb66n | exact absurd rfl hb73n | exact absurd rfl hb82n | exact absurd rfl hb91n | (simp at hb; done)⟩, S.tail2.tr⟩
                      · have hb82n := hb82; replace hb82n := Nrm.nrm hb82n
                        refine zy E hb82 (by first | exact zAg (q := 11) E rfl rfl rfl | exact zAh (q := 11) E rfl rfl rfl) ?_; clear E a; intro a E
                        refine zy E hb82 (by first | exact zAo E rfl rfl rfl (S.get (by repeat (first | exact pk1 | apply zAc))) rfl | exact zAj E rfl rfl rfl (by assumption)) ?_; clear E a; intro a E
                        refine zy E hb82 (by first | exact zBx E rfl rfl rfl | exact zAx E rfl rfl rfl | exact zAq E rfl rfl rfl) ?_; clear E a; intro a E
                        refine zy E hb82 (by first | exact zAg (q := 11) E rfl rfl rfl | exact zAh (q := 11) E rfl rfl rfl) ?_; clear E a; intro a E
                        refine zy E hb82 (by first | exact zAo E rfl rfl rfl (S.get (by repeat (first | exact pk1 | apply zAc))) rfl | exact zAj E rfl rfl rfl (by assumption)) ?_; clear E a; intro a E
                        refine zy E hb82 (by first | exact zBx E rfl rfl rfl | exact zAx E rfl rfl rfl | exact zAq E rfl rfl rfl) ?_; clear E a; intro a E
                        refine zy E hb82 (by first | exact zCu E rfl rfl rfl | exact zBg E rfl rfl rfl rfl | exact zBr E rfl rfl rfl rfl | exact zBk E rfl rfl rfl) ?_; clear E a; intro a E
                        refine zp E (zAi E rfl rfl hb82 rfl) ?_; clear E a; intro a E
                        refine zp E (zAe E rfl rfl) ?_; clear E a; intro a E
                        refine zAs E (t := 91) rfl (fun hb91 => ?_) (fun hb91 => ?_)
                        · have hb91n := hb91; replace hb91n := Nrm.nrm hb91n
                          iterate 7 (refine zn E hb91 ?_; clear E a; intro a E)
                          refine zp E (zAl E rfl rfl hb91 rfl) ?_; clear E a; intro a E
                          refine wpList_nil ?_
                          refine zAf hK ?_; clear hK; clear K
                          refine zCi E rfl rfl ?_
                          refine wp_seq_k ?_; intro K hK
                          replace E := E.keep (e' := [(2, _), (3, _), (4, _)]) (zAa rfl (zAa rfl (zAa rfl (zAm))))
                          refine zAb ?_
                          refine zp E (zAd E rfl rfl) ?_; clear E a; intro a E
                          refine wpList_nil ?_
                          refine zAf hK ?_; clear hK; clear K
                          refine wp_ret ?_
                          refine zAv ?_; clear hK; clear K
                          refine ret1 E rfl rfl ?_
                          exact ⟨_, rfl, _, rfl, ⟨fun q => Bool.noConfusion q, by rintro rfl; first | exact absurd rfl hb59n | exact absurd rfl hb66n | exact absurd rfl hb73n | exact absurd rfl hb82n | exact absurd rfl hb91n | (simp at hb; done)⟩, S.tail2.tr⟩
                        · have hb91n := hb91; replace hb91n := Nrm.nrm hb91n
                          refine zy E hb91 (by first | exact zAg (q := 12) E rfl rfl rfl | exact zAh (q := 12) E rfl rfl rfl) ?_; clear E a; intro a E
                          refine zy E hb91 (by first | exact zAo E rfl rfl rfl (S.get (by repeat (first | exact pk1 | apply zAc))) rfl | exact zAj E rfl rfl rfl (by assumption)) ?_; clear E a; intro a E
                          refine zy E hb91 (zCa E rfl rfl rfl rfl rfl ha.dr (S.stab.at (List.Mem.tail _ (List.Mem.tail _ ma)))) ?_; clear E a; intro a E
                          refine zy E hb91 (by first | exact zAg (q := 12) E rfl rfl rfl | exact zAh (q := 12) E rfl rfl rfl) ?_; clear E a; intro a E
                          refine zy E hb91 (by first | exact zAo E rfl rfl rfl (S.get (by repeat (first | exact pk1 | apply zAc))) rfl | exact zAj E rfl rfl rfl (by assumption)) ?_; clear E a; intro a E
                          refine zy E hb91 (zCa E rfl rfl rfl rfl rfl hq.dr (S.stab.at (List.Mem.tail _ (List.Mem.tail _ mb)))) ?_; clear E a; intro a E
                          refine zy E hb91 (by first | exact zCu E rfl rfl rfl | exact zBg E rfl rfl rfl rfl | exact zBr E rfl rfl rfl rfl | exact zBk E rfl rfl rfl) ?_; clear E a; intro a E
                          refine zp E (zAi E rfl rfl hb91 rfl) ?_; clear E a; intro a E
                          refine wpList_nil ?_
                          refine zAf hK ?_; clear hK; clear K
                          refine zBf E rfl (fun hb => ?_) (fun hb => ?_)
                          · replace hb := Nrm.nrm hb
                            refine wp_seq_k ?_; intro K hK
                            replace E := E.keep (e' := [(2, _), (3, _), (4, _)]) (zAa rfl (zAa rfl (zAa rfl (zAm))))
                            refine zAb ?_
                            refine zp E (zAd E rfl rfl) ?_; clear E a; intro a E
                            refine wpList_nil ?_
                            refine zAf hK ?_; clear hK; clear K
                            refine wp_ret ?_
                            refine zAv ?_; clear hK; clear K
                            refine ret1 E rfl rfl ?_
                            exact ⟨_, rfl, _, rfl, ⟨fun q => Bool.noConfusion q, by rintro rfl; first | exact absurd rfl hb59n | exact absurd rfl hb66n | exact absurd rfl hb73n | exact absurd rfl hb82n | exact absurd rfl hb91n | (simp at hb; done)⟩, S.tail2.tr⟩
                          · replace hb := Nrm.nrm hb
                            have hdt := hb
                            refine wp_skip ?_
                            refine zAf hK ?_; clear hK; clear K
                            iterate 2 (refine wp_seq_k ?_; intro K hK)
                            replace E := E.keep (e' := [(2, _), (3, _), (4, _)]) (zAa rfl (zAa rfl (zAa rfl (zAm))))
                            have e2 : ra.name = rb.name := by simpa using hb19
                            have e7 : ra.snap = rb.snap := by simpa using hsn
                            have e13 : ra.data = rb.data := by simpa using hdt
                            have e8 : ra.props.length = rb.props.length := by omega
                            have e12 : ra.keep.length = rb.keep.length := by omega
                            refine zAb ?_
                            refine zp E (zAd E rfl rfl) ?_; clear E a; intro a E
                            refine wpList_nil ?_
                            refine zAf hK ?_; clear hK; clear K
                            refine wp_block ?_
                            refine wp_loop_ghost (fun (m : Nat) (a : Act) (w' : World) => ∃ i : Nat, m = ra.props.length - i ∧ i ≤ ra.props.length ∧ ra.props.take i = rb.props.take i ∧ St w0 As w' ([(b3, cel (rb.cells (.slice a4 rb.props.length c4) (.slice a5 rb.keep.length c5) (.slice a6 rb.data.length c6)) 26)] :: [(b2, cel (ra.cells (.slice a1 ra.props.length c1) (.slice a2 ra.keep.length c2) (.slice a3 ra.data.length c3)) 26)] :: As) ∧ Fr a 136 [(2, ptr b2), (3, ptr b3), (4, .bool false), (5, .int .i64 i)]) (ra.props.length) ?_ ?_
                            · exact ⟨0, by omega, by omega, rfl, S, E.keep (zAa rfl (zAa rfl (zAa rfl (zAa rfl zAm))))⟩
                            clear E; clear a; (try clear S); rintro m a w ⟨i, rfl, hi, he, S, E⟩
                            iterate 2 (refine wp_seq_k ?_; intro K hK)
                            refine zAb ?_
                            refine zp E (zAe E rfl rfl) ?_; clear E a; intro a E
                            refine zp E (by first | exact zAg (q := 7) E rfl rfl rfl | exact zAh (q := 7) E rfl rfl rfl) ?_; clear E a; intro a E
                            refine zp E (by first | exact zAo E rfl rfl rfl (S.get (by repeat (first | exact pk1 | apply zAc))) rfl | exact zAj E rfl rfl rfl (by assumption)) ?_; clear E a; intro a E
                            refine zp E (by first | exact zBx E rfl rfl rfl | exact zAx E rfl rfl rfl | exact zAq E rfl rfl rfl) ?_; clear E a; intro a E
                            refine zp E (zCn E rfl rfl rfl) ?_; clear E a; intro a E
                            refine wpList_nil ?_
                            refine zAf hK ?_; clear hK; clear K
                            refine zBf E rfl (fun hb => ?_) (fun hb => ?_)
                            · replace hb := Nrm.nrm hb
                              refine wp_skip ?_
                              refine zAf hK ?_; clear hK; clear K
                              refine wp_seq_k ?_; intro K hK
                              refine wp_block ?_
                              refine wp_seq_k ?_; intro K hK
                              have hil : i < ra.props.length := by omega
                              have hil2 : i < rb.props.length := by omega
                              obtain ⟨q1, o1, rfl⟩ := ha.pr.addr (by omega)
                              obtain ⟨q2, o2, rfl⟩ := hq.pr.addr (by omega)
                              obtain ⟨x1, hx1⟩ : ∃ x, x = ra.props[i] := ⟨_, rfl⟩
                              obtain ⟨x2, hx2⟩ : ∃ x, x = rb.props[i] := ⟨_, rfl⟩
                              have hl1 := ha.pr.elem (lay := Prp.lay) Prp.lay_len (S.stab.at (List.Mem.tail _ (List.Mem.tail _ ma))) hil
                              have hl2 := hq.pr.elem (lay := Prp.lay) Prp.lay_len (S.stab.at (List.Mem.tail _ (List.Mem.tail _ mb))) hil2
                              rw [← hx1] at hl1
                              rw [← hx2] at hl2
                              refine zBz S (.ofL [(0, 0), (1, 0), (2, 0), (3, 0), (4, 0), (5, 0), (6, 0), (7, 0), (8, 0), (9, 0), (10, 0)]) (by kernel_rfl) (by kernel_rfl) ?_
                              clear S; intro w S
                              refine zm E rfl (fun w h => by first | exact zAg (q := 7) E rfl rfl rfl | exact zAh (q := 7) E rfl rfl rfl) ?_; clear E a; intro a E
                              refine zm E rfl (fun w h => by first | exact zAo E rfl rfl rfl (h.one (by repeat (first | exact mm1 | assumption | apply List.Mem.tail))) rfl | exact zAj E rfl rfl rfl (by assumption)) ?_; clear E a; intro a E
                              refine zm E rfl (fun w h => zAe E rfl rfl) ?_; clear E a; intro a E
                              refine zm E rfl (fun w h => by first | exact zBl E rfl rfl rfl rfl rfl rfl (by omega) | exact zBv E rfl rfl rfl rfl rfl rfl (by omega) | exact zBj E rfl rfl rfl rfl rfl rfl (by omega)) ?_; clear E a; intro a E
                              refine zm E rfl (fun w h => zDo (vs := [_, _]) E rfl rfl rfl rfl (ha.pr.elem (lay := Prp.lay) Prp.lay_len (h.at (List.Mem.tail _ (List.Mem.tail _ ma))) hil)) ?_; clear E a; intro a E
                              refine zm E rfl (fun w h => by first | exact zAg (q := 7) E rfl rfl rfl | exact zAh (q := 7) E rfl rfl rfl) ?_; clear E a; intro a E
                              refine zm E rfl (fun w h => by first | exact zAo E rfl rfl rfl (h.one (by repeat (first | exact mm1 | assumption | apply List.Mem.tail))) rfl | exact zAj E rfl rfl rfl (by assumption)) ?_; clear E a; intro a E
                              refine zm E rfl (fun w h => zAe E rfl rfl) ?_; clear E a; intro a E
                              refine zm E rfl (fun w h => by first | exact zBl E rfl rfl rfl rfl rfl rfl (by omega) | exact zBv E rfl rfl rfl rfl rfl rfl (by omega) | exact zBj E rfl rfl rfl rfl rfl rfl (by omega)) ?_; clear E a; intro a E
                              refine zm E rfl (fun w h => zDo (vs := [_, _]) E rfl rfl rfl rfl (hq.pr.elem (lay := Prp.lay) Prp.lay_len (h.at (List.Mem.tail _ (List.Mem.tail _ mb))) hil2)) ?_; clear E a; intro a E
                              refine zm E rfl (fun w h => rn_neq_strs E rfl rfl rfl rfl (by kernel_rfl) (by kernel_rfl) rfl rfl) ?_; clear E a; intro a E
                              refine zBw ?_
                              refine zAf hK ?_; clear hK; clear K
                              refine zBf E rfl (fun hb => ?_) (fun hb => ?_)
                              · replace hb := Nrm.nrm hb
                                refine wp_seq_k ?_; intro K hK
                                refine zAb ?_
                                refine zp E (zAd E rfl rfl) ?_; clear E a; intro a E
                                refine wpList_nil ?_
                                refine zAf hK ?_; clear hK; clear K
                                refine wp_ret ?_
                                refine zCm ?_
                                refine zAv ?_; clear hK; clear K
                                refine zAv ?_
                                refine zCm ?_
                                refine zAv ?_; clear hK; clear K
                                refine ret1 E rfl rfl ?_
                                exact ⟨_, rfl, _, rfl, ⟨fun q => Bool.noConfusion q, by rintro rfl; simp at hb⟩, S.tail2.tr⟩
                              · replace hb := Nrm.nrm hb
                                refine wp_skip ?_
                                refine zBi ?_
                                refine zAf hK ?_; clear hK; clear K
                                refine zAb ?_
                                refine zp E (zAe E rfl rfl) ?_; clear E a; intro a E
                                refine zp E (zBu E rfl rfl rfl (by first | exact zCl (y := 1) (by omega) | exact w_in (by omega) | exact zBt (by omega) | exact rfl)) ?_; clear E a; intro a E
                                refine zp E (zAd E rfl rfl) ?_; clear E a; intro a E
                                refine wpList_nil ?_
                                refine zBq ?_
                                refine ⟨_, by omega, i + 1, rfl, by omega, zLd he hil hil2 ?_, S, E.keep (zAa rfl (zAa rfl (zAa rfl (zAa rfl zAm))))⟩
                                have hb : ra.props[i].name = rb.props[i].name ∧ ra.props[i].value = rb.props[i].value := by simpa using hb
                                cases hra : ra.props[i]
                                cases hrb : rb.props[i]
                                rw [hra, hrb] at hb
                                simp only at hb
                                rw [hb.1, hb.2]
                            · replace hb := Nrm.nrm hb
                              refine wp_exit ?_
                              refine zBc ?_; clear hK; clear K
                              refine zBc ?_
                              refine zCj ?_
                              refine zAf hK ?_; clear hK; clear K
                              iterate 2 (refine wp_seq_k ?_; intro K hK)
                              have e8' : ra.props = rb.props := by rw [List.take_of_length_le (by omega), List.take_of_length_le (by omega)] at he; exact he
                              refine zAb ?_
                              refine zp E (zAd E rfl rfl) ?_; clear E a; intro a E
                              refine wpList_nil ?_
                              refine zAf hK ?_; clear hK; clear K
                              refine wp_block ?_
                              refine wp_loop_ghost (fun (m : Nat) (a : Act) (w' : World) => ∃ i : Nat, m = ra.keep.length - i ∧ i ≤ ra.keep.length ∧ ra.keep.take i = rb.keep.take i ∧ St w0 As w' ([(b3, cel (rb.cells (.slice a4 rb.props.length c4) (.slice a5 rb.keep.length c5) (.slice a6 rb.data.length c6)) 26)] :: [(b2, cel (ra.cells (.slice a1 ra.props.length c1) (.slice a2 ra.keep.length c2) (.slice a3 ra.data.length c3)) 26)] :: As) ∧ Fr a 136 [(2, ptr b2), (3, ptr b3), (4, .bool false), (6, .int .i64 i)]) (ra.keep.length) ?_ ?_
                              · exact ⟨0, by omega, by omega, rfl, S, E.keep (zAa rfl (zAa rfl (zAa rfl (zAa rfl zAm))))⟩
                              clear E; clear a; (try clear S); rintro m a w ⟨j, rfl, hj, hk, S, E⟩
                              iterate 2 (refine wp_seq_k ?_; intro K hK)
                              refine zAb ?_
                              refine zp E (zAe E rfl rfl) ?_; clear E a; intro a E
                              refine zp E (by first | exact zAg (q := 11) E rfl rfl rfl | exact zAh (q := 11) E rfl rfl rfl) ?_; clear E a; intro a E
                              refine zp E (by first | exact zAo E rfl rfl rfl (S.get (by repeat (first | exact pk1 | apply zAc))) rfl | exact zAj E rfl rfl rfl (by assumption)) ?_; clear E a; intro a E
                              refine zp E (by first | exact zBx E rfl rfl rfl | exact zAx E rfl rfl rfl | exact zAq E rfl rfl rfl) ?_; clear E a; intro a E
                              refine zp E (zCn E rfl rfl rfl) ?_; clear E a; intro a E
                              refine wpList_nil ?_
                              refine zAf hK ?_; clear hK; clear K
                              refine zBf E rfl (fun hb => ?_) (fun hb => ?_)
                              · replace hb := Nrm.nrm hb
                                refine wp_skip ?_
                                refine zAf hK ?_; clear hK; clear K
                                refine wp_seq_k ?_; intro K hK
                                refine wp_block ?_
                                refine wp_seq_k ?_; intro K hK
                                have hil : j < ra.keep.length := by omega
                                have hil2 : j < rb.keep.length := by omega
                                obtain ⟨q1, o1, rfl⟩ := ha.kr.addr (by omega)
                                obtain ⟨q2, o2, rfl⟩ := hq.kr.addr (by omega)
                                refine zBz S (.ofL [(0, 0), (1, 0), (2, 0), (3, 0), (4, 0), (5, 0), (6, 0), (7, 0), (8, 0), (9, 0), (10, 0)]) (by kernel_rfl) (by kernel_rfl) ?_
                                clear S; intro w S
                                refine zm E rfl (fun w h => by first | exact zAg (q := 11) E rfl rfl rfl | exact zAh (q := 11) E rfl rfl rfl) ?_; clear E a; intro a E
                                refine zm E rfl (fun w h => by first | exact zAo E rfl rfl rfl (h.one (by repeat (first | exact mm1 | assumption | apply List.Mem.tail))) rfl | exact zAj E rfl rfl rfl (by assumption)) ?_; clear E a; intro a E
                                refine zm E rfl (fun w h => zAe E rfl rfl) ?_; clear E a; intro a E
                                refine zm E rfl (fun w h => by first | exact zBl E rfl rfl rfl rfl rfl rfl (by omega) | exact zBv E rfl rfl rfl rfl rfl rfl (by omega) | exact zBj E rfl rfl rfl rfl rfl rfl (by omega)) ?_; clear E a; intro a E
                                refine zm E rfl (fun w h => zAj E rfl rfl rfl (ha.kr.cells (h.at (List.Mem.tail _ (List.Mem.tail _ ma))) rfl j _ (zGe hil))) ?_; clear E a; intro a E
                                refine zm E rfl (fun w h => by first | exact zAg (q := 11) E rfl rfl rfl | exact zAh (q := 11) E rfl rfl rfl) ?_; clear E a; intro a E
                                refine zm E rfl (fun w h => by first | exact zAo E rfl rfl rfl (h.one (by repeat (first | exact mm1 | assumption | apply List.Mem.tail))) rfl | exact zAj E rfl rfl rfl (by assumption)) ?_; clear E a; intro a E
                                refine zm E rfl (fun w h => zAe E rfl rfl) ?_; clear E a; intro a E
                                refine zm E rfl (fun w h => by first | exact zBl E rfl rfl rfl rfl rfl rfl (by omega) | exact zBv E rfl rfl rfl rfl rfl rfl (by omega) | exact zBj E rfl rfl rfl rfl rfl rfl (by omega)) ?_; clear E a; intro a E
                                refine zm E rfl (fun w h => zAj E rfl rfl rfl (hq.kr.cells (h.at (List.Mem.tail _ (List.Mem.tail _ mb))) rfl j _ (zGe hil2))) ?_; clear E a; intro a E
                                refine zm E rfl (fun w h => by first | exact zCu E rfl rfl rfl | exact zBg E rfl rfl rfl rfl | exact zBr E rfl rfl rfl rfl | exact zBk E rfl rfl rfl) ?_; clear E a; intro a E
                                refine zBw ?_
                                refine zAf hK ?_; clear hK; clear K
                                refine zBf E rfl (fun hb => ?_) (fun hb => ?_)
                                · replace hb := Nrm.nrm hb
                                  refine wp_seq_k ?_; intro K hK
                                  refine zAb ?_
                                  refine zp E (zAd E rfl rfl) ?_; clear E a; intro a E
                                  refine wpList_nil ?_
                                  refine zAf hK ?_; clear hK; clear K
                                  refine wp_ret ?_
                                  refine zCm ?_
                                  refine zAv ?_; clear hK; clear K
                                  refine zAv ?_
                                  refine zCm ?_
                                  refine zAv ?_; clear hK; clear K
                                  refine ret1 E rfl rfl ?_
                                  exact ⟨_, rfl, _, rfl, ⟨fun q => Bool.noConfusion q, by rintro rfl; exact absurd rfl hb⟩, S.tail2.tr⟩
                                · replace hb := Nrm.nrm hb
                                  refine wp_skip ?_
                                  refine zBi ?_
                                  refine zAf hK ?_; clear hK; clear K
                                  refine zAb ?_
                                  refine zp E (zAe E rfl rfl) ?_; clear E a; intro a E
                                  refine zp E (zBu E rfl rfl rfl (by first | exact zCl (y := 1) (by omega) | exact w_in (by omega) | exact zBt (by omega) | exact rfl)) ?_; clear E a; intro a E
                                  refine zp E (zAd E rfl rfl) ?_; clear E a; intro a E
                                  refine wpList_nil ?_
                                  refine zBq ?_
                                  exact ⟨_, by omega, j + 1, rfl, by omega, zLd hk hil hil2 hb, S, E.keep (zAa rfl (zAa rfl (zAa rfl (zAa rfl zAm))))⟩
                              · replace hb := Nrm.nrm hb
                                refine wp_exit ?_
                                refine zBc ?_; clear hK; clear K
                                refine zBc ?_
                                refine zCj ?_
                                refine zAf hK ?_; clear hK; clear K
                                refine wp_seq_k ?_; intro K hK
                                refine zAb ?_
                                refine zp E (zAd E rfl rfl) ?_; clear E a; intro a E
                                refine wpList_nil ?_
                                refine zAf hK ?_; clear hK; clear K
                                refine wp_ret ?_
                                refine ret1 E rfl rfl ?_
                                have e12' : ra.keep = rb.keep := by rw [List.take_of_length_le (by omega), List.take_of_length_le (by omega)] at hk; exact hk
                                refine ⟨_, rfl, _, rfl, ⟨fun _ => ?_, fun _ => rfl⟩, S.tail2.tr⟩
                                obtain ⟨A1, A2, A3, A4, A5, A6, A7, A8, A9, A10, A11, A12, A13⟩ := ra
                                obtain ⟨B1, B2, B3, B4, B5, B6, B7, B8, B9, B10, B11, B12, B13⟩ := rb
                                simp only at *
                                simp_all
end Go.Proofs.YtbogecljkaimdaaGreatDoor
namespace Go.Sl
structure RV where
  r : Rec
  pv : Value
  kv : Value
  dv : Value
def RV.lay (x : RV) : List Value := x.r.cells x.pv x.kv x.dv
theorem RV.lay_len (x : RV) : x.lay.length = 13 := rfl
def RVs (X : zAy) (l : List RV) : Prop := ∀ x ∈ l, RecR X x.r x.pv x.kv x.dv
abbrev fsC (s : Fs) : List Value := [.int .u64 s.a, .int .u64 s.b, .int .u64 s.c, .int .u64 s.d]
theorem RecR.sub {C D : zAy} {r : Rec} {pv kv dv : Value} (h : RecR C r pv kv dv) (hs : ∀ x ∈ C, x ∈ D) : RecR D r pv kv dv := ⟨h.pr.sub hs, h.kr.sub hs, h.dr.sub hs⟩
theorem RVs.sub {C D : zAy} {l : List RV} (h : RVs C l) (hs : ∀ x ∈ C, x ∈ D) : RVs D l := fun x hx => (h x hx).sub hs
theorem rvs_one {X : zAy} {l : List RV} (h : RVs X l) : ∀ u ∈ l.flatMap RV.lay, u.oneCell' = true := fun u hu => by
  obtain ⟨x, hx, hu⟩ := List.mem_flatMap.1 hu
  have := h x hx
  obtain ⟨a1, c1, e1⟩ := this.pr.slice
  obtain ⟨a2, c2, e2⟩ := this.kr.slice
  obtain ⟨a3, c3, e3⟩ := this.dr.slice
  rw [RV.lay, e1, e2, e3] at hu
  simp only [Rec.cells, List.mem_cons, List.not_mem_nil, or_false] at hu
  rcases hu with rfl | rfl | rfl | rfl | rfl | rfl | rfl | rfl | rfl | rfl | rfl | rfl | rfl <;> rfl
def strS (l : List Rec) : List UInt8 × Fs := l.foldl (fun x r => (x.1 ++ zDc r.kind (zDz r.kind r) x.2, ownS r.kind (zDz r.kind r) x.2)) ([], zEj)
theorem zLe {l : List Rec} {i : Nat} (h : i < l.length) : strS (l.take (i + 1)) = ((strS (l.take i)).1 ++ zDc l[i].kind (zDz l[i].kind l[i]) (strS (l.take i)).2, ownS l[i].kind (zDz l[i].kind l[i]) (strS (l.take i)).2) := by
  rw [← List.take_append_getElem h, strS, List.foldl_append]
  rfl
end Go.Sl
namespace Go.Proofs.YtbogecljkaimdaaGreatDoor
open Go.Sl
set_option maxRecDepth 10000
theorem piece_le {r : Rec} (h : ckB r = true) (s : Fs) : (zDc r.kind (zDz r.kind r) s).length ≤ 2085 := by
  have := zKy (zKx h).1 (zKx h).2
  rw [zFx]; omega
theorem strS_le {l : List Rec} : ∀ i, i ≤ l.length → (∀ k, ∀ h : k < l.length, k < i → ckB l[k] = true) → (strS (l.take i)).1.length ≤ 2085 * i := by
  intro i
  induction i with
  | zero => intro _ _; simp [strS]
  | succ i ih =>
    intro hi hc
    rw [zLe (by omega), List.length_append]
    have h1 := ih (by omega) fun k h hk => hc k h (by omega)
    have h2 := piece_le (hc i (by omega) (by omega)) (strS (l.take i)).2
    omega
noncomputable def strR (l : List Rec) : Int × List UInt8 :=
  @ite _ (∀ r ∈ l, ckB r = true) (Classical.propDecidable _) (if 1048576 < (strS l).1.length then (2, []) else (0, (strS l).1)) (200, [])
theorem strR_no {l : List Rec} {i : Nat} (h : i < l.length) (hc : ckB l[i] = false) : strR l = (200, []) := by
  unfold strR
  rw [if_neg fun q => by have := q _ (List.getElem_mem h); rw [hc] at this; cases this]
theorem all_of {l : List Rec} (h : ∀ k, ∀ h : k < l.length, ckB l[k] = true) : ∀ r ∈ l, ckB r = true := fun r hr => by
  obtain ⟨k, hk, rfl⟩ := List.getElem_of_mem hr
  exact h k hk
theorem strR_long {l : List Rec} (h : ∀ k, ∀ h : k < l.length, ckB l[k] = true) (hl : 1048576 < (strS l).1.length) : strR l = (2, []) := by
  unfold strR
  rw [if_pos (all_of h), if_pos hl]
theorem strR_ok {l : List Rec} (h : ∀ k, ∀ h : k < l.length, ckB l[k] = true) (hl : (strS l).1.length ≤ 1048576) : strR l = (0, (strS l).1) := by
  unfold strR
  rw [if_pos (all_of h), if_neg (by omega)]
set_option maxHeartbeats 1000000 in
theorem stream_ret {D X : zAy} {v : Value} {l : List RV} (hD : Rd D 13 v l.length (l.flatMap RV.lay)) (hX : RVs X l) (hs : ∀ x ∈ l, Sml x.r) (hl : l.length ≤ 1048576) (rs : List Rec) (hrs : rs = l.map RV.r) {As : List zAy} (mD : D ∈ As) (mX : X ∈ As) (hG : Tab As 2 shaK) (w0 : World) (H : Hp w0 As) :
    Ret Tryz.prog 23 #[v] w0 fun u w' => ∃ v' C, u = .tuple #[v', .int .i64 (strR rs).1] ∧ Buf C 5 1 v' (strR rs).2.length (byt (strR rs).2) ∧ Trs w0 w' As (C :: As) := by
  have S := St.begin H
  have hrl : rs.length = l.length := by rw [hrs, List.length_map]
  obtain ⟨ad, c, rfl⟩ := hD.slice
  refine zCx 36 Tryz.func23 rfl rfl (by decide) ?_; intro a E
  refine wp_seq_k ?_; intro K hK
  refine zAb ?_
  iterate 2 (refine zp E (zAd E rfl rfl) ?_; clear E a; intro a E)
  refine wpList_nil ?_
  refine zAf hK ?_; clear hK; clear K
  refine wp_seq_k ?_; intro K hK
  refine zAb ?_
  refine zp E (zAd E rfl rfl) ?_; clear E a; intro a E
  refine wpList_nil ?_
  refine zAf hK ?_; clear hK; clear K
  refine wp_seq_k ?_; intro K hK
  refine zAb ?_
  refine zAn rfl (zBs E S rfl rfl (by decide) rfl rfl rfl ?_); clear E S a; intro a w b5 E S
  refine wpList_nil ?_
  refine zAf hK ?_; clear hK; clear K
  iterate 2 (refine wp_seq_k ?_; intro K hK)
  refine zAb ?_
  refine zp E (zAe E rfl rfl) ?_; clear E a; intro a E
  refine zp E (by first | exact zBx E rfl rfl rfl | exact zAx E rfl rfl rfl | exact zAq E rfl rfl rfl) ?_; clear E a; intro a E
  refine zp E (zAe E rfl rfl) ?_; clear E a; intro a E
  refine wpList_nil ?_
  refine zAf hK ?_; clear hK; clear K
  refine wp_block ?_
  refine wp_loop_ghost (fun (m : Nat) (a : Act) (w' : World) => ∃ (i : Nat) (C : zAy) (v' : Value), m = l.length - i ∧ i ≤ l.length ∧ (∀ k, ∀ h : k < rs.length, k < i → ckB rs[k] = true) ∧ Buf C 5 1 v' (strS (rs.take i)).1.length (byt (strS (rs.take i)).1) ∧ St w0 As w' (C :: [(b5, cel (fsC (strS (rs.take i)).2) 29)] :: As) ∧ Fr a 36 [(2, nilv), (3, .int .i64 0), (4, v'), (5, ptr b5), (11, .slice ad l.length c), (12, .int .i64 l.length), (13, .int .i64 i)]) (l.length) ?_ ?_
  · exact ⟨0, [], _, by omega, by omega, by intro k _ h; omega, Buf.nil _ _, S.addNil, E.keep (zAa rfl (zAa rfl (zAa rfl (zAa rfl (zAa rfl (zAa rfl (zAa rfl zAm)))))))⟩
  clear E; clear a; (try clear S); rintro m a w ⟨i, C, v', rfl, hi, hck, hB, S, E⟩
  refine wp_seq_k ?_; intro K hK
  refine zAb ?_
  refine zp E (zCn E rfl rfl rfl) ?_; clear E a; intro a E
  refine wpList_nil ?_
  refine zAf hK ?_; clear hK; clear K
  refine wp_seq_k ?_; intro K hK
  refine zBf E rfl (fun hb => ?_) (fun hb => ?_)
  · replace hb := Nrm.nrm hb
    refine wp_skip ?_
    refine zAf hK ?_; clear hK; clear K
    refine wp_seq_k ?_; intro K hK
    refine wp_block ?_
    refine wp_seq_k ?_; intro K hK
    have hil : i < l.length := by omega
    have hir : i < rs.length := by omega
    have hlen := strS_le (l := rs) i (by omega) hck
    have hri : rs[i] = l[i].r := by simp [hrs]
    obtain ⟨b, off, rfl⟩ := hD.addr (by omega)
    obtain ⟨x, hx⟩ : ∃ x, x = l[i] := ⟨_, rfl⟩
    have hxR := hX _ (List.getElem_mem hil)
    have hxs := hs _ (List.getElem_mem hil)
    have hcl := hD.elem RV.lay_len (S.stab.at (List.Mem.tail _ (List.Mem.tail _ mD))) hil
    rw [← hx] at hxR hxs hcl hri
    obtain ⟨r, pv, kv, dv⟩ := x
    simp only at hxR hxs hri
    obtain ⟨bs, hbs⟩ : ∃ bs, bs = (strS (rs.take i)).1 := ⟨_, rfl⟩
    obtain ⟨se, hse⟩ : ∃ se, se = (strS (rs.take i)).2 := ⟨_, rfl⟩
    rw [← hbs] at hB hlen
    rw [← hse] at S
    obtain ⟨p1, p2, p3⟩ := hxR
    obtain ⟨a1, c1, rfl⟩ := p1.slice
    obtain ⟨a2, c2, rfl⟩ := p2.slice
    obtain ⟨a3, c3, rfl⟩ := p3.slice
    have hxR : RecR X r (.slice a1 r.props.length c1) (.slice a2 r.keep.length c2) (.slice a3 r.data.length c3) := ⟨p1, p2, p3⟩
    refine zAb ?_
    refine zp E (by first | exact zBl E rfl rfl rfl rfl rfl rfl (by omega) | exact zBv E rfl rfl rfl rfl rfl rfl (by omega) | exact zBj E rfl rfl rfl rfl rfl rfl (by omega)) ?_; clear E a; intro a E
    refine zp E (zDo (vs := [_, _, _, _, _, _, _, _, _, _, _, _, _]) E rfl rfl rfl rfl (hcl)) ?_; clear E a; intro a E
    refine zAn rfl (zBs E S rfl rfl (by decide) rfl rfl rfl ?_); clear E S a; intro a w b7 E S
    refine zAn rfl (zAz E S rfl rfl rfl rfl (by simp [Value.oneCell']) rfl (by repeat (first | exact pk1 | apply zAc)) (by simp) ?_); clear E S a; intro a w E S; simp only [List.take_succ_cons, List.take_zero, List.drop_succ_cons, List.drop_zero, List.cons_append, List.nil_append, List.append_nil, List.length_cons, List.length_nil, Nat.zero_add, Nat.add_zero] at S
    refine wpList_nil ?_
    refine zAf hK ?_; clear hK; clear K
    refine wp_seq_k ?_; intro K hK
    refine zAb ?_
    refine zp E (zBp (vs := [_, _, _, _, _, _, _, _, _, _, _, _, _]) E rfl rfl rfl (S.get (by repeat (first | exact pk1 | apply zAc))) rfl rfl) ?_; clear E a; intro a E
    refine zp E (zBp (vs := [_, _, _, _]) E rfl rfl rfl (S.get (by repeat (first | exact pk1 | apply zAc))) rfl rfl) ?_; clear E a; intro a E
    refine zAp E rfl rfl (by decide) rfl Tryz.func12 rfl (by kernel_rfl) rfl (encode_ret hxR hxs se (List.Mem.tail _ (List.Mem.tail _ (List.Mem.tail _ mX))) (hG.sub fun Q hQ => List.Mem.tail _ (List.Mem.tail _ (List.Mem.tail _ hQ))) _ S.hp) ?_
    rintro v20 w h; clear E a; intro a E
    rcases h with ⟨hno, rfl, hT⟩ | ⟨hyes, v2, D2, rfl, hB2, hT⟩
    · skip
      have S := S.all hT
      refine zp E (zAe E rfl rfl) ?_; clear E a; intro a E
      iterate 3 (refine zp E (zBm E rfl rfl rfl) ?_; clear E a; intro a E)
      refine zAn rfl (zBs E S rfl rfl (by decide) rfl rfl rfl ?_); clear E S a; intro a w b9 E S
      refine zp E (zAd E rfl rfl) ?_; clear E a; intro a E
      refine zAn rfl (zAz E S rfl rfl rfl rfl (by simp [Value.oneCell']) rfl (by repeat (first | exact pk1 | apply zAc)) (by simp) ?_); clear E S a; intro a w E S; simp only [List.take_succ_cons, List.take_zero, List.drop_succ_cons, List.drop_zero, List.cons_append, List.nil_append, List.append_nil, List.length_cons, List.length_nil, Nat.zero_add, Nat.add_zero] at S
      refine zp E (zAd E rfl rfl) ?_; clear E a; intro a E
      refine wpList_nil ?_
      refine zAf hK ?_; clear hK; clear K
      iterate 2 (refine wp_seq_k ?_; intro K hK)
      refine zAb ?_
      refine zp E (zAe E rfl rfl) ?_; clear E a; intro a E
      refine zp E (by first | exact zCu E rfl rfl rfl | exact zBg E rfl rfl rfl rfl | exact zBr E rfl rfl rfl rfl | exact zBk E rfl rfl rfl) ?_; clear E a; intro a E
      refine wpList_nil ?_
      refine zAf hK ?_; clear hK; clear K
      refine zCi E rfl ((by rfl)) ?_
      refine wp_seq_k ?_; intro K hK
      refine zAb ?_
      refine zp E (zAe E rfl rfl) ?_; clear E a; intro a E
      iterate 2 (refine zp E (zAd E rfl rfl) ?_; clear E a; intro a E)
      refine wpList_nil ?_
      refine zAf hK ?_; clear hK; clear K
      refine wp_ret ?_
      refine zAv ?_; clear hK; clear K
      refine zCm ?_
      refine zAv ?_; clear hK; clear K
      refine zAv ?_
      refine zCm ?_
      refine zAv ?_; clear hK; clear K
      refine ret2 E rfl rfl rfl ?_
      rw [strR_no hir (by rw [hri]; exact hno)]
      exact ⟨_, rfl, _, [], rfl, Buf.nil _ _, ((St.drops0 [_, _, _, _] S).addNil).tr⟩
    · skip
      have S := S.all hT; have hpl := piece_le hyes se
      refine zp E (zAe E rfl rfl) ?_; clear E a; intro a E
      iterate 3 (refine zp E (zBm E rfl rfl rfl) ?_; clear E a; intro a E)
      refine zAn rfl (zBs E S rfl rfl (by decide) rfl rfl rfl ?_); clear E S a; intro a w b9 E S
      refine zp E (zAd E rfl rfl) ?_; clear E a; intro a E
      refine zAn rfl (zAz E S rfl rfl rfl rfl (by simp [Value.oneCell']) rfl (by repeat (first | exact pk1 | apply zAc)) (by simp) ?_); clear E S a; intro a w E S; simp only [List.take_succ_cons, List.take_zero, List.drop_succ_cons, List.drop_zero, List.cons_append, List.nil_append, List.append_nil, List.length_cons, List.length_nil, Nat.zero_add, Nat.add_zero] at S
      refine zp E (zAd E rfl rfl) ?_; clear E a; intro a E
      refine wpList_nil ?_
      refine zAf hK ?_; clear hK; clear K
      iterate 2 (refine wp_seq_k ?_; intro K hK)
      refine zAb ?_
      refine zp E (zAe E rfl rfl) ?_; clear E a; intro a E
      refine zp E (by first | exact zCu E rfl rfl rfl | exact zBg E rfl rfl rfl rfl | exact zBr E rfl rfl rfl rfl | exact zBk E rfl rfl rfl) ?_; clear E a; intro a E
      refine wpList_nil ?_
      refine zAf hK ?_; clear hK; clear K
      refine zDl E rfl ((by rfl)) ?_
      refine wp_skip ?_
      refine zAf hK ?_; clear hK; clear K
      refine zCz S (.ofL [(0, 0), (1, 0), (3, 0), (2, 1), (4, 0), (5, 3)]) [[(b9, cel (fsC (ownS r.kind (zDz r.kind r) se)) 29)]] (fun h => h.sub (by first | (simp; done) | (simp +contextual; done) | (simp [*]; done))) (by kernel_rfl) (by kernel_rfl) ?_
      clear S; intro w S
      iterate 2 (refine zm E rfl (fun w h => zAe E rfl rfl) ?_; clear E a; intro a E)
      refine zm E rfl (fun w h => zBp (vs := [_, _, _, _]) E rfl rfl rfl (h.one (by repeat (first | exact mm1 | assumption | apply List.Mem.tail))) rfl rfl) ?_; clear E a; intro a E
      refine zCp rfl rfl (zCq (by' := 1) E S rfl rfl (by decide) rfl rfl hB (by repeat (first | exact pk1 | apply zAc)) (hB2.rd.src (S.stab.at (by repeat (first | exact mm1 | assumption | apply List.Mem.tail))) rfl) rfl rfl rfl rfl rfl rfl (by simp only [maxLen]; omega) (by omega) ?_); clear E S a; intro a w v29 C29 E S hB29; refine ⟨S.stab.sub (by first | (simp; done) | (simp +contextual; done) | (simp [*]; done)), ?_⟩
      refine zm E rfl (fun w h => zAd E rfl rfl) ?_; clear E a; intro a E
      refine zCk rfl rfl (zAz E S rfl rfl rfl rfl (by simp [Value.oneCell']) rfl (by repeat (first | exact pk1 | apply zAc)) (by simp) ?_); clear E S a; intro a w E S; simp only [List.take_succ_cons, List.take_zero, List.drop_succ_cons, List.drop_zero, List.cons_append, List.nil_append, List.append_nil, List.length_cons, List.length_nil, Nat.zero_add, Nat.add_zero] at S
      refine zBw ?_
      refine zBi ?_
      refine zAf hK ?_; clear hK; clear K
      refine zAb ?_
      refine zp E (zBu E rfl rfl rfl (by first | exact zCl (y := 1) (by omega) | exact w_in (by omega) | exact zBt (by omega) | exact rfl)) ?_; clear E a; intro a E
      refine zp E (zAe E rfl rfl) ?_; clear E a; intro a E
      refine wpList_nil ?_
      refine zBq ?_
      have hst := zLe hir
      rw [hri, ← hbs, ← hse] at hst
      refine ⟨_, by omega, i + 1, C29, v29, rfl, by omega, ?_, by rw [hst]; simp only; rw [List.length_append, zDu]; exact hB29, ?_, E.keep (zAa rfl (zAa rfl (zAa rfl (zAa rfl (zAa rfl (zAa rfl (zAa rfl zAm)))))))⟩
      · intro k hk hki
        by_cases e : k = i
        · subst e; rw [hri]; exact hyes
        · exact hck k hk (by omega)
      · rw [hst]
        exact St.drops2 [_, _, _] (S.front2 (A := C29) (B := [(b5, _)]) (by repeat (first | exact pk1 | apply zAc)) (by repeat (first | exact pk1 | apply zAc)))
  · replace hb := Nrm.nrm hb
    refine wp_exit ?_
    refine zBc ?_; clear hK; clear K
    refine zBc ?_
    refine zCj ?_
    refine zAf hK ?_; clear hK; clear K
    iterate 2 (refine wp_seq_k ?_; intro K hK)
    obtain rfl : i = l.length := by omega
    have hck : ∀ k, ∀ h : k < rs.length, ckB rs[k] = true := fun k h => hck k h (by omega)
    rw [List.take_of_length_le (by omega)] at hB
    obtain ⟨adv, cv, rfl⟩ := hB.slice
    refine zAb ?_
    refine zp E (zAe E rfl rfl) ?_; clear E a; intro a E
    refine zp E (by first | exact zBx E rfl rfl rfl | exact zAx E rfl rfl rfl | exact zAq E rfl rfl rfl) ?_; clear E a; intro a E
    refine zp E (zDm E rfl rfl rfl) ?_; clear E a; intro a E
    refine wpList_nil ?_
    refine zAf hK ?_; clear hK; clear K
    refine zBf E rfl (fun hb => ?_) (fun hb => ?_)
    · replace hb := Nrm.nrm hb
      refine wp_seq_k ?_; intro K hK
      refine zAb ?_
      iterate 2 (refine zp E (zAd E rfl rfl) ?_; clear E a; intro a E)
      refine wpList_nil ?_
      refine zAf hK ?_; clear hK; clear K
      refine wp_ret ?_
      refine zAv ?_; clear hK; clear K
      refine ret2 E rfl rfl rfl ?_
      rw [strR_long hck (by omega)]
      exact ⟨_, rfl, _, [], rfl, Buf.nil _ _, ((St.drops0 [_, _] S).addNil).tr⟩
    · replace hb := Nrm.nrm hb
      refine wp_skip ?_
      refine zAf hK ?_; clear hK; clear K
      refine wp_seq_k ?_; intro K hK
      refine zAb ?_
      refine zp E (zAe E rfl rfl) ?_; clear E a; intro a E
      iterate 2 (refine zp E (zAd E rfl rfl) ?_; clear E a; intro a E)
      refine wpList_nil ?_
      refine zAf hK ?_; clear hK; clear K
      refine wp_ret ?_
      refine ret2 E rfl rfl rfl ?_
      rw [strR_ok hck (by omega)]
      exact ⟨_, rfl, _, C, rfl, hB, (St.drops [_] S).tr⟩
end Go.Proofs.YtbogecljkaimdaaGreatDoor
namespace Go.Proofs.YtbogecljkaimdaaGreatDoor
open Go.Sl
set_option maxRecDepth 10000
structure DecOk (b : List UInt8) (s : Fs) (r : Rec) (n : Nat) (o : Fs) : Prop where
  k : inK (zDp b)
  sz : zCf b ≤ 2048
  len : 37 + zCf b ≤ b.length
  n_ : n = 37 + zCf b
  o_ : o = ownD b s
  sl_ : zFa (ownD b s) = (b.drop (5 + zCf b)).take 32
  r_ : r = (zFf (zDp b) ⟨zFg b, 0, 0⟩).1
  done : (zFf (zDp b) ⟨zFg b, 0, 0⟩).2.done = 0
  ck : ckB r = true
theorem dec_inv (b : List UInt8) (s : Fs) : ((decR b s).1 = 10 ∨ (decR b s).1 = 200 ∨ (decR b s).1 = 201) ∧ decR b s = zIw (decR b s).1 ∨ ∃ r n o, decR b s = (0, r, n, o) ∧ DecOk b s r n o := by
  by_cases h5 : b.length < 5
  · left; rw [dec_1 h5]; exact ⟨.inl rfl, rfl⟩
  by_cases h2 : ¬ inK (zDp b) ∨ 2048 < zCf b
  · left; rw [dec_2 (by omega) h2]; exact ⟨.inr (.inl rfl), rfl⟩
  have hk : inK (zDp b) := Classical.byContradiction fun q => h2 (.inl q)
  have hn : zCf b ≤ 2048 := Nat.le_of_not_lt fun q => h2 (.inr q)
  by_cases h3 : b.length < 37 + zCf b
  · left; rw [dec_3 (by omega) hk hn h3]; exact ⟨.inl rfl, rfl⟩
  by_cases h4 : zFa (ownD b s) = (b.drop (5 + zCf b)).take 32
  · by_cases h6 : (zFf (zDp b) ⟨zFg b, 0, 0⟩).2.done ≠ 0 ∨ ckB (zFf (zDp b) ⟨zFg b, 0, 0⟩).1 = false
    · left; rw [dec_5 (by omega) hk hn (by omega) h4 h6]; exact ⟨.inr (.inl rfl), rfl⟩
    · have h8 : (zFf (zDp b) ⟨zFg b, 0, 0⟩).2.done = 0 := Classical.byContradiction fun q => h6 (.inl q)
      have h9 : ckB (zFf (zDp b) ⟨zFg b, 0, 0⟩).1 = true := by
        cases hc : ckB (zFf (zDp b) ⟨zFg b, 0, 0⟩).1 with
        | true => rfl
        | false => exact absurd (.inr hc) h6
      exact .inr ⟨_, _, _, dec_6 (by omega) hk hn (by omega) h4 h8 h9, hk, hn, by omega, rfl, rfl, h4, rfl, h8, h9⟩
  · left; rw [dec_4 (by omega) hk hn (by omega) h4]; exact ⟨.inr (.inr rfl), rfl⟩
theorem dec_ok {b : List UInt8} {s : Fs} (h : (decR b s).1 = 0) : DecOk b s (decR b s).2.1 (decR b s).2.2.1 (decR b s).2.2.2 := by
  rcases dec_inv b s with ⟨h1, _⟩ | ⟨r, n, o, h1, h2⟩
  · omega
  · rw [h1]; exact h2
theorem dec_sml (b : List UInt8) (s : Fs) : Sml (decR b s).2.1 := by
  rcases dec_inv b s with ⟨_, h1⟩ | ⟨r, n, o, h1, h2⟩
  · rw [h1]; exact ⟨zDj, zDj, zDj, zHq, zDj, zDj⟩
  · rw [h1]; simp only; rw [h2.r_]; exact zLb h2.k _
noncomputable def recF : Nat → List UInt8 → Fs → List Rec → Int × List Rec
  | 0, _, _, acc => (0, acc)
  | n + 1, b, s, acc => if b = [] then (0, acc) else if (decR b s).1 ≠ 0 then ((decR b s).1, []) else recF n (b.drop (decR b s).2.2.1) (decR b s).2.2.2 (acc ++ [(decR b s).2.1])
theorem recF_more : ∀ (n m : Nat) (b : List UInt8) (s : Fs) (acc : List Rec), b.length < n → b.length < m → recF n b s acc = recF m b s acc
  | 0, _, _, _, _, h, _ => absurd h (Nat.not_lt_zero _)
  | _, 0, _, _, _, _, h => absurd h (Nat.not_lt_zero _)
  | n + 1, m + 1, b, s, acc, h1, h2 => by
    rw [recF, recF]
    by_cases hb : b = []
    · rw [if_pos hb, if_pos hb]
    · rw [if_neg hb, if_neg hb]
      by_cases hd : (decR b s).1 ≠ 0
      · rw [if_pos hd, if_pos hd]
      · rw [if_neg hd, if_neg hd]
        have := dec_ok (by simpa using hd : (decR b s).1 = 0)
        have h3 := this.n_
        have h4 := this.len
        exact recF_more n m _ _ _ (by rw [List.length_drop]; omega) (by rw [List.length_drop]; omega)
noncomputable def recG (b : List UInt8) (s : Fs) (acc : List Rec) : Int × List Rec := recF (b.length + 1) b s acc
theorem zHe (s : Fs) (acc : List Rec) : recG [] s acc = (0, acc) := rfl
theorem zJx {b : List UInt8} {s : Fs} (acc : List Rec) (hb : b ≠ []) (h : (decR b s).1 ≠ 0) : recG b s acc = ((decR b s).1, []) := by
  rw [recG, recF, if_neg hb, if_pos h]
theorem zLf {b : List UInt8} {s : Fs} (acc : List Rec) (hb : b ≠ []) (h : (decR b s).1 = 0) : recG b s acc = recG (b.drop (decR b s).2.2.1) (decR b s).2.2.2 (acc ++ [(decR b s).2.1]) := by
  rw [recG, recF, if_neg hb, if_neg (by simpa using h), recG]
  have := dec_ok h
  have h3 := this.n_
  have h4 := this.len
  exact recF_more _ _ _ _ _ (by rw [List.length_drop]; omega) (by rw [List.length_drop]; omega)
theorem perm_front {α : Type} {x : α} {l : List α} (h : x ∈ l) : ∃ r, l.Perm (x :: r) := by
  obtain ⟨s, t, rfl⟩ := List.append_of_mem h
  exact ⟨s ++ t, List.perm_middle⟩
noncomputable def zGj (b : List UInt8) : Int × List Rec := if 1048576 < b.length then (2, []) else recG b zEj []
theorem sl_cut {D : zAy} {ad : Option Addr} {c n : Nat} {b : List UInt8} (h : Rd D 1 (.slice ad b.length c) b.length (byt b)) (hc : b.length ≤ c) (hn : n ≤ b.length) :
    ∃ ad2, sliced ad n b.length c 1 = .slice ad2 (b.drop n).length (c - n) ∧ Rd D 1 (.slice ad2 (b.drop n).length (c - n)) (b.drop n).length (byt (b.drop n)) ∧ (b.drop n).length ≤ c - n := by
  have hp := h.piece rfl (lo := n) (hi := b.length) (mx := c) hn (Nat.le_refl _) hc
  have hl : (b.drop n).length = b.length - n := List.length_drop
  simp only [Nat.mul_one] at hp
  rw [List.take_of_length_le (by rw [List.length_drop, zEk]; exact Nat.le_refl _), zGn, ← hl] at hp
  refine ⟨(if c = n then ad else ad.map (·.add (n * 1))), by rw [hl]; rfl, ?_, by omega⟩
  have e : sliced ad n b.length c 1 = .slice (if c = n then ad else ad.map (·.add (n * 1))) (b.drop n).length (c - n) := by rw [hl]; rfl
  rwa [e] at hp
set_option maxHeartbeats 1000000 in
theorem zLg (D : zAy) (ad : Option Addr) (c : Nat) (b : List UInt8) (hD : Rd D 1 (.slice ad b.length c) b.length (byt b)) (hcap : b.length ≤ c) {As : List zAy} (mD : D ∈ As) (hG : Tab As 2 shaK) (w0 : World) (H : Hp w0 As) :
    Ret Tryz.prog 20 #[.slice ad b.length c] w0 fun u w' => ∃ v' C X l, u = .tuple #[v', .int .i64 (zGj b).1] ∧ Buf C 26 13 v' l.length (l.flatMap RV.lay) ∧ RVs X l ∧ l.map RV.r = (zGj b).2 ∧ Trs w0 w' As (C :: X :: As) := by
  have S := St.begin H
  refine zCx 36 Tryz.func20 rfl rfl (by decide) ?_; intro a E
  refine wp_seq_k ?_; intro K hK
  refine zAb ?_
  iterate 2 (refine zp E (zAd E rfl rfl) ?_; clear E a; intro a E)
  refine wpList_nil ?_
  refine zAf hK ?_; clear hK; clear K
  iterate 2 (refine wp_seq_k ?_; intro K hK)
  refine zAb ?_
  refine zp E (zAe E rfl rfl) ?_; clear E a; intro a E
  refine zp E (by first | exact zBx E rfl rfl rfl | exact zAx E rfl rfl rfl | exact zAq E rfl rfl rfl) ?_; clear E a; intro a E
  refine zp E (zDm E rfl rfl rfl) ?_; clear E a; intro a E
  refine wpList_nil ?_
  refine zAf hK ?_; clear hK; clear K
  refine zBf E rfl (fun hb => ?_) (fun hb => ?_)
  · replace hb := Nrm.nrm hb
    refine wp_seq_k ?_; intro K hK
    refine zAb ?_
    iterate 2 (refine zp E (zAd E rfl rfl) ?_; clear E a; intro a E)
    refine wpList_nil ?_
    refine zAf hK ?_; clear hK; clear K
    refine wp_ret ?_
    refine zAv ?_; clear hK; clear K
    refine ret2 E rfl rfl rfl ?_
    refine ⟨_, rfl, nilv, [], [], [], ?_, Buf.nil _ _, (fun x hx => by cases hx), ?_, S.addNil.addNil.tr⟩
    · rw [zGj, if_pos (by omega)]
    · rw [zGj, if_pos (by omega)]; rfl
  · replace hb := Nrm.nrm hb
    refine wp_skip ?_
    refine zAf hK ?_; clear hK; clear K
    refine wp_seq_k ?_; intro K hK
    have hbl : b.length ≤ 1048576 := by omega
    have hr0 : zGj b = recG b zEj [] := by rw [zGj, if_neg (by omega)]
    refine zAb ?_
    refine zp E (zAd E rfl rfl) ?_; clear E a; intro a E
    refine wpList_nil ?_
    refine zAf hK ?_; clear hK; clear K
    refine wp_seq_k ?_; intro K hK
    refine zAb ?_
    refine zAn rfl (zBs E S rfl rfl (by decide) rfl rfl rfl ?_); clear E S a; intro a w b5 E S
    refine wpList_nil ?_
    refine zAf hK ?_; clear hK; clear K
    refine wp_seq_k ?_; intro K hK
    refine wp_block ?_
    refine wp_loop_ghost (fun (m : Nat) (a : Act) (w' : World) => ∃ (b' : List UInt8) (ad' : Option Addr) (c' : Nat) (s : Fs) (l : List RV) (C X : zAy) (v' : Value), m = b'.length ∧ Rd D 1 (.slice ad' b'.length c') b'.length (byt b') ∧ b'.length ≤ c' ∧ l.length + b'.length ≤ b.length ∧ zGj b = recG b' s (l.map RV.r) ∧ Buf C 26 13 v' l.length (l.flatMap RV.lay) ∧ RVs X l ∧ St w0 As w' (C :: X :: [(b5, cel (fsC s) 29)] :: As) ∧ Fr a 36 [(0, .slice ad' b'.length c'), (2, nilv), (3, .int .i64 0), (4, v'), (5, ptr b5)]) (b.length) ?_ ?_
    · exact ⟨b, ad, c, zEj, [], [], [], _, rfl, hD, hcap, by simp, hr0, Buf.nil _ _, (fun x hx => by cases hx), S.addNil.addNil, E.keep (zAa rfl (zAa rfl (zAa rfl (zAa rfl (zAa rfl zAm)))))⟩
    clear E; clear a; (try clear S); rintro m a w ⟨b', ad', c', s, l, C, X, v', rfl, hD', hc', hll, hrec, hB, hX, S, E⟩
    iterate 2 (refine wp_seq_k ?_; intro K hK)
    refine zAb ?_
    refine zp E (zAe E rfl rfl) ?_; clear E a; intro a E
    refine zp E (by first | exact zBx E rfl rfl rfl | exact zAx E rfl rfl rfl | exact zAq E rfl rfl rfl) ?_; clear E a; intro a E
    refine zp E (zDm E rfl rfl rfl) ?_; clear E a; intro a E
    refine wpList_nil ?_
    refine zAf hK ?_; clear hK; clear K
    refine zBf E rfl (fun hb => ?_) (fun hb => ?_)
    · replace hb := Nrm.nrm hb
      refine wp_skip ?_
      refine zAf hK ?_; clear hK; clear K
      refine wp_block ?_
      refine wp_seq_k ?_; intro K hK
      have hne : b' ≠ [] := by rintro rfl; simp at hb
      have hGD : Tab (D :: As) 2 shaK := hG.tail
      have hsm := dec_sml b' s
      obtain ⟨x, hx⟩ : ∃ x, x = decR b' s := ⟨_, rfl⟩
      have hok : x.1 = 0 → DecOk b' s x.2.1 x.2.2.1 x.2.2.2 := fun h => by rw [hx] at h ⊢; exact dec_ok h
      have herr := zJx (s := s) (l.map RV.r) hne
      have hgo := zLf (s := s) (l.map RV.r) hne
      rw [← hx] at hsm herr hgo
      obtain ⟨e, r, n, o⟩ := x
      simp only at hsm hok herr hgo
      obtain ⟨pre, hpre⟩ := perm_front mD
      have S := S.perm (Bs := D :: (C :: X :: [(b5, cel (fsC s) 29)] :: pre)) (by
        refine ((((hpre.cons [(b5, cel (fsC s) 29)]).cons X).cons C).trans ?_)
        exact (zAc (zAc (zAc (zJz _ _)))))
      refine zAb ?_
      refine zp E (zAe E rfl rfl) ?_; clear E a; intro a E
      refine zp E (zBp (vs := [_, _, _, _]) E rfl rfl rfl (S.get (by repeat (first | exact pk1 | apply zAc))) rfl rfl) ?_; clear E a; intro a E
      refine zAp E rfl rfl (by decide) rfl Tryz.func19 rfl (by kernel_rfl) rfl (zJd D ad' c' b' hD' hc' (by omega) s _ (hG.sub fun Q hQ => by rcases List.mem_cons.1 (hpre.mem_iff.1 hQ) with rfl | q; exact List.Mem.head _; exact List.Mem.tail _ (List.Mem.tail _ (List.Mem.tail _ (List.Mem.tail _ q)))) _ S.hp) ?_
      rintro v19 w ⟨Y, pv, kv, dv, he, hY, hT⟩; clear E a; intro a E
      rw [← hx] at he hY; simp only [Rec.cells] at he hY; subst he; have S := S.all hT
      obtain ⟨a1, c1, rfl⟩ := hY.rd.pr.slice
      obtain ⟨a2, c2, rfl⟩ := hY.rd.kr.slice
      obtain ⟨a3, c3, rfl⟩ := hY.rd.dr.slice
      have hYR := hY.rd
      clear hY
      refine zp E (zAe E rfl rfl) ?_; clear E a; intro a E
      iterate 4 (refine zp E (zBm E rfl rfl rfl) ?_; clear E a; intro a E)
      refine zAn rfl (zBs E S rfl rfl (by decide) rfl rfl rfl ?_); clear E S a; intro a w b6 E S
      refine zAn rfl (zBs E S rfl rfl (by decide) rfl rfl rfl ?_); clear E S a; intro a w b8 E S
      refine zAn rfl (zAz E S rfl rfl rfl rfl (by simp [Value.oneCell']) rfl (by repeat (first | exact pk1 | apply zAc)) (by simp) ?_); clear E S a; intro a w E S; simp only [List.take_succ_cons, List.take_zero, List.drop_succ_cons, List.drop_zero, List.cons_append, List.nil_append, List.append_nil, List.length_cons, List.length_nil, Nat.zero_add, Nat.add_zero] at S
      refine zp E (zAd E rfl rfl) ?_; clear E a; intro a E
      refine zAn rfl (zAz E S rfl rfl rfl rfl (by simp [Value.oneCell']) rfl (by repeat (first | exact pk1 | apply zAc)) (by simp) ?_); clear E S a; intro a w E S; simp only [List.take_succ_cons, List.take_zero, List.drop_succ_cons, List.drop_zero, List.cons_append, List.nil_append, List.append_nil, List.length_cons, List.length_nil, Nat.zero_add, Nat.add_zero] at S
      refine zp E (zAd E rfl rfl) ?_; clear E a; intro a E
      refine wpList_nil ?_
      refine zAf hK ?_; clear hK; clear K
      iterate 2 (refine wp_seq_k ?_; intro K hK)
      refine zAb ?_
      refine zp E (zAe E rfl rfl) ?_; clear E a; intro a E
      refine zp E (by first | exact zCu E rfl rfl rfl | exact zBg E rfl rfl rfl rfl | exact zBr E rfl rfl rfl rfl | exact zBk E rfl rfl rfl) ?_; clear E a; intro a E
      refine wpList_nil ?_
      refine zAf hK ?_; clear hK; clear K
      refine zBf E rfl (fun hb => ?_) (fun hb => ?_)
      · replace hb := Nrm.nrm hb
        refine wp_seq_k ?_; intro K hK
        refine zAb ?_
        refine zp E (zAe E rfl rfl) ?_; clear E a; intro a E
        iterate 2 (refine zp E (zAd E rfl rfl) ?_; clear E a; intro a E)
        refine wpList_nil ?_
        refine zAf hK ?_; clear hK; clear K
        refine wp_ret ?_
        refine zAv ?_; clear hK; clear K
        refine zCm ?_
        refine zAv ?_
        refine zCm ?_
        refine zAv ?_; clear hK; clear K
        refine ret2 E rfl rfl rfl ?_
        rw [hrec, herr hb]
        refine ⟨_, rfl, nilv, [], [], [], rfl, Buf.nil _ _, (fun x hx => by cases hx), rfl, ?_⟩
        exact ((((St.drops0 [_, _, _] S).drops [_, _, _]).perm hpre.symm).addNil.addNil).tr
      · replace hb := Nrm.nrm hb
        refine wp_skip ?_
        refine zAf hK ?_; clear hK; clear K
        have hd := hok hb
        have h1 := hd.n_
        have h2 := hd.len
        obtain ⟨ad2, hs2, hD2, hc2⟩ := sl_cut (n := n) hD' hc' (by omega)
        refine zCz S (.ofL [(0, 0), (1, 0), (4, 0), (5, 2), (6, 2), (7, 2), (2, 1), (3, 1), (8, 0), (9, 3), (10, 2)]) [[(b6, cel [.int .i64 r.kind, str r.name, .int .i64 r.typ, .int .i64 r.frm, .int .i64 r.guid, .int .i64 r.origin, str r.snap, .slice a1 r.props.length c1, .int .i64 r.object, .int .i64 r.at_, .int .i64 r.many, .slice a2 r.keep.length c2, .slice a3 r.data.length c3] 26)], [(b8, cel (fsC o) 29)]] (fun h => h.sub (by first | (simp; done) | (simp +contextual; done) | (simp [*]; done))) (by kernel_rfl) (by kernel_rfl) ?_
        clear S; intro w S
        refine zm E rfl (fun w h => zAe E rfl rfl) ?_; clear E a; intro a E
        refine zm E rfl (fun w h => zBp (vs := [_, _, _, _, _, _, _, _, _, _, _, _, _]) E rfl rfl rfl (h.one (by repeat (first | exact mm1 | assumption | apply List.Mem.tail))) rfl rfl) ?_; clear E a; intro a E
        refine zm E rfl (fun w h => zBp (vs := [_, _, _, _]) E rfl rfl rfl (h.one (by repeat (first | exact mm1 | assumption | apply List.Mem.tail))) rfl rfl) ?_; clear E a; intro a E
        iterate 2 (refine zCg E rfl rfl rfl (by decide) (fun w => zAe E rfl rfl) ?_; clear E a; intro a E)
        refine zCg E rfl rfl rfl (by decide) (fun w => zIx (s := 1) E rfl rfl rfl rfl rfl rfl (by omega)) ?_; clear E a; intro a E
        refine zCp rfl rfl (zDg (cells := [_, _, _, _, _, _, _, _, _, _, _, _, _]) E S rfl rfl (by decide) rfl rfl rfl rfl rfl (by decide) rfl ?_); clear E S a; intro a w b29 E S; refine ⟨S.stab.sub (by first | (simp; done) | (simp +contextual; done) | (simp [*]; done)), ?_⟩
        refine zCp rfl rfl (zCq (by' := 168) E S rfl rfl (by decide) rfl rfl hB (by repeat (first | exact pk1 | apply zAc)) ((zEp (g := b29) (T := 26) (xs := [.int .i64 r.kind, str r.name, .int .i64 r.typ, .int .i64 r.frm, .int .i64 r.guid, .int .i64 r.origin, str r.snap, .slice a1 r.props.length c1, .int .i64 r.object, .int .i64 r.at_, .int .i64 r.many, .slice a2 r.keep.length c2, .slice a3 r.data.length c3]) (s := 13) (m := 1) rfl (by simp [Value.oneCell']) (by omega) 1).src (S.stab.at (by repeat (first | exact mm1 | assumption | apply List.Mem.tail))) rfl) rfl rfl rfl rfl rfl rfl (by simp only [maxLen]; omega) (by omega) ?_); clear E S a; intro a w v30 C30 E S hB30; refine ⟨S.stab.sub (by first | (simp; done) | (simp +contextual; done) | (simp [*]; done)), ?_⟩
        refine zm E rfl (fun w h => zAd E rfl rfl) ?_; clear E a; intro a E
        refine zCk rfl rfl (zAz E S rfl rfl rfl rfl (by simp [Value.oneCell']) rfl (by repeat (first | exact pk1 | apply zAc)) (by simp) ?_); clear E S a; intro a w E S; simp only [List.take_succ_cons, List.take_zero, List.drop_succ_cons, List.drop_zero, List.cons_append, List.nil_append, List.append_nil, List.length_cons, List.length_nil, Nat.zero_add, Nat.add_zero] at S
        refine zCg E rfl rfl rfl (by decide) (fun w => zAd E rfl rfl) ?_; clear E a; intro a E
        refine zBw ?_
        refine zBi ?_
        refine zBq ?_
        rw [hs2] at E
        have S := St.drops0 [_, _, _] (S.front3 (A := [(b29, _)]) (B := [(b8, _)]) (C := [(b6, _)]) (by repeat (first | exact pk1 | apply zAc)) (by repeat (first | exact pk1 | apply zAc)) (by repeat (first | exact pk1 | apply zAc)))
        have S := (S.front5 (A := X) (B := Y) (C := C30) (D := [(b5, _)]) (F := D) (by repeat (first | exact pk1 | apply zAc)) (by repeat (first | exact pk1 | apply zAc)) (by repeat (first | exact pk1 | apply zAc)) (by repeat (first | exact pk1 | apply zAc)) (by repeat (first | exact pk1 | apply zAc))).join.perm2
        have S := S.perm (((hpre.symm.cons _).cons _).cons _)
        refine ⟨_, ?_, b'.drop n, ad2, c' - n, o, l ++ [⟨r, .slice a1 r.props.length c1, .slice a2 r.keep.length c2, .slice a3 r.data.length c3⟩], C30, X ++ Y, v30, rfl, hD2, hc2, ?_, ?_, ?_, ?_, S, E.keep (zAa rfl (zAa rfl (zAa rfl (zAa rfl (zAa rfl zAm)))))⟩
        · rw [List.length_drop]; omega
        · simp only [List.length_append, List.length_drop, List.length_singleton]; omega
        · rw [hrec, hgo hb, List.map_append]; rfl
        · rw [List.length_append, List.flatMap_append]; exact hB30
        · intro x hx
          rcases List.mem_append.1 hx with q | q
          · exact (hX x q).sub fun y hy => List.mem_append_left _ hy
          · rw [List.mem_singleton.1 q]; exact hYR.sub fun y hy => List.mem_append_right _ hy
    · replace hb := Nrm.nrm hb
      refine wp_exit ?_
      refine zBc ?_; clear hK; clear K
      refine zBc ?_
      refine zCj ?_
      refine zAf hK ?_; clear hK; clear K
      refine wp_seq_k ?_; intro K hK
      refine zAb ?_
      refine zp E (zAe E rfl rfl) ?_; clear E a; intro a E
      iterate 2 (refine zp E (zAd E rfl rfl) ?_; clear E a; intro a E)
      refine wpList_nil ?_
      refine zAf hK ?_; clear hK; clear K
      refine wp_ret ?_
      refine ret2 E rfl rfl rfl ?_
      obtain rfl : b' = [] := List.length_eq_zero_iff.1 (by omega)
      rw [hrec, zHe]
      exact ⟨_, rfl, v', C, X, l, rfl, hB, hX, rfl, (St.drops2 [_] S).tr⟩
end Go.Proofs.YtbogecljkaimdaaGreatDoor
