/-
  Texts put together (4).
-/
import Derived.Test.YtbogecljkaimdaaGreatDoorZRecordWrites3
namespace Go.Sl
section
variable {P : Program} {a : Act} {o : Oper} {n : Nat} {e : List (Nat × Value)} {x y : Operand} {w : World}
theorem equalIn_str {t : TypeId} (d : Nat) (b c : List UInt8) (ht : P.underlying t = some .string) : (Op.equalIn (d + 1) t (str b) (str c)).run P w = .ok (decide (b = c)) w := by
  have h : ((⟨b.toArray⟩ : ByteArray) == ⟨c.toArray⟩) = decide (b = c) := by
    rw [beq_toListBytes, zJa, zJa, zJr]
  simp [Op.equalIn, run_underlying ht, h]
theorem equal_strs {t t0 : TypeId} {fs : Array Field} (ht : P.underlying t = some (.struct fs)) (hp : P.stoodInHeld t = false)
    (hf : fs.toList.map (fun f => (f.name == "_", f.type, f.offset)) = [(false, t0, 0), (false, t0, 1)]) (u0 : P.underlying t0 = some .string) (p q r s : List UInt8) :
    (Op.equalIn 10000 t (.agg #[str p, str q]) (.agg #[str r, str s])).run P w = .ok (decide (p = r) && decide (q = s)) w := by
  have hS : P.underlying t = some (.struct (P.fieldsOf t)) := by simp [Program.fieldsOf, ht]
  have hfs : P.fieldsOf t = fs := by simp [Program.fieldsOf, ht]
  rw [show (10000 : Nat) = 9999 + 1 from rfl, run_equalIn_agg w 9999 t _ _ hS hp, hfs]
  generalize fs.toList = l at hf
  have hl : l.length = 2 := by simpa using congrArg List.length hf
  match l, hl, hf with
  | [f0, f1], _, hf =>
    simp only [List.map_cons, List.map_nil, List.cons.injEq, Prod.mk.injEq, beq_eq_false_iff_ne, ne_eq, and_true] at hf
    obtain ⟨⟨n0, rfl, o0⟩, n1, h1, o1⟩ := hf
    have a0 : (isAgg f0.type).run P w = .ok false w := by simp [isAgg, run_underlying u0]
    have a1 : (isAgg f1.type).run P w = .ok false w := by rw [h1]; exact a0
    have key : ∀ b c : List UInt8, (Op.equalIn 9999 f0.type (str b) (str c)).run P w = .ok (decide (b = c)) w := fun b c => equalIn_str 9998 b c u0
    simp [Op.eqFields, n0, n1, o0, o1, h1, part, a0, key]
    by_cases h1 : p = r <;> by_cases h2 : q = s <;> simp [h1, h2]
theorem rn_neq_strs (E : Fr a n e) {t t' t0 : TypeId} {fs : Array Field} {p q r s : List UInt8} (ho : o.op = .binOp .neq t x y t') (hx : ev e x = some (.agg #[str p, str q])) (hy : ev e y = some (.agg #[str r, str s]))
    (ht : P.underlying t = some (.struct fs)) (hp : P.stoodInHeld t = false) (hm : P.eqGuardType P.depth t = false)
    (hf : fs.toList.map (fun f => (f.name == "_", f.type, f.offset)) = [(false, t0, 0), (false, t0, 1)]) (u0 : P.underlying t0 = some .string) : zBf P o a w (.bool !(decide (p = r) && decide (q = s))) w := by
  have h1 := run_eqGuard_agg (P := P) w .neq t x y #[str p, str q] #[str r, str s] hm
  have h2 : (binOp .neq t (.agg #[str p, str q]) (.agg #[str r, str s])).run P w = .ok (.bool !(decide (p = r) && decide (q = s))) w := by
    rw [run_neq_struct, equal_strs ht hp hf u0]; rfl
  simp [zBf, execOp, ho, E.eval hx, E.eval hy, h1, h2]
end
theorem take_more {α : Type} {l m : List α} {i : Nat} (h : l.take i = m.take i) (hi : i < l.length) (hj : i < m.length) (he : l[i] = m[i]) : l.take (i + 1) = m.take (i + 1) := by
  rw [← List.take_append_getElem hi, ← List.take_append_getElem hj, h, he]
end Go.Sl
namespace Go.Proofs.YtbogecljkaimdaaGreatDoor
open Go.Sl
set_option maxRecDepth 10000
theorem same_ret {Ca Cb : zAw} {ra rb : Rec} {pa ka da pb kb db : Value} (ha : RecR Ca ra pa ka da) (hq : RecR Cb rb pb kb db) (hsa : Sml ra) (As : List zAw) (ma : Ca ∈ As) (mb : Cb ∈ As) (w0 : World) (H : Hp w0 As) :
    Ret Tryz.prog 13 #[.agg (ra.cells pa ka da).toArray, .agg (rb.cells pb kb db).toArray] w0 fun u w' => ∃ z, u = .bool z ∧ (z = true ↔ ra = rb) ∧ Trs w0 w' As As := by
  have S := St.begin H
  have la := hsa.props
  have lb := hsa.keep
  obtain ⟨a1, c1, rfl⟩ := ha.pr.slice
  obtain ⟨a2, c2, rfl⟩ := ha.kr.slice
  obtain ⟨a3, c3, rfl⟩ := ha.dr.slice
  obtain ⟨a4, c4, rfl⟩ := hq.pr.slice
  obtain ⟨a5, c5, rfl⟩ := hq.kr.slice
  obtain ⟨a6, c6, rfl⟩ := hq.dr.slice
  refine zCl 136 Tryz.func13 rfl rfl (by decide) ?_; intro a E
  refine wp_seq_k ?_; intro K hK
  refine zAb ?_
  refine zAo rfl (zCm E S rfl rfl (by decide) rfl rfl ?_); clear E S a; intro a w b2 E S
  refine zAo rfl (zCm E S rfl rfl (by decide) rfl rfl ?_); clear E S a; intro a w b3 E S
  refine zp E (zAd E rfl rfl) ?_; clear E a; intro a E
  refine wpList_nil ?_
  refine zAf hK ?_; clear hK; clear K
  iterate 2 (refine wp_seq_k ?_; intro K hK)
  refine zAb ?_
  refine zp E (by first | exact zAg (q := 0) E rfl rfl rfl | exact zAh (q := 0) E rfl rfl rfl) ?_; clear E a; intro a E
  refine zp E (by first | exact zAn E rfl rfl rfl (S.get (by repeat (first | exact pk1 | apply zAc))) rfl | exact zAj E rfl rfl rfl (by assumption)) ?_; clear E a; intro a E
  refine zp E (by first | exact zAg (q := 0) E rfl rfl rfl | exact zAh (q := 0) E rfl rfl rfl) ?_; clear E a; intro a E
  refine zp E (by first | exact zAn E rfl rfl rfl (S.get (by repeat (first | exact pk1 | apply zAc))) rfl | exact zAj E rfl rfl rfl (by assumption)) ?_; clear E a; intro a E
  refine zp E (by first | exact zDa E rfl rfl rfl | exact zBi E rfl rfl rfl rfl | exact zBs E rfl rfl rfl rfl | exact zBl E rfl rfl rfl) ?_; clear E a; intro a E
  refine zp E (zAe E rfl rfl) ?_; clear E a; intro a E
  refine zAr E (t := 12) rfl (fun hb12 => ?_) (fun hb12 => ?_)
  · have hb12n := hb12; replace hb12n := Nrm.nrm hb12n
    iterate 5 (refine zn E hb12 ?_; clear E a; intro a E)
    refine zp E (zAk E rfl rfl hb12 rfl) ?_; clear E a; intro a E
    refine zp E (zAe E rfl rfl) ?_; clear E a; intro a E
    iterate 5 (refine zn E rfl ?_; clear E a; intro a E)
    refine zp E (zAk E rfl rfl rfl rfl) ?_; clear E a; intro a E
    refine zp E (zAe E rfl rfl) ?_; clear E a; intro a E
    iterate 5 (refine zn E rfl ?_; clear E a; intro a E)
    refine zp E (zAk E rfl rfl rfl rfl) ?_; clear E a; intro a E
    refine zp E (zAe E rfl rfl) ?_; clear E a; intro a E
    iterate 5 (refine zn E rfl ?_; clear E a; intro a E)
    refine zp E (zAk E rfl rfl rfl rfl) ?_; clear E a; intro a E
    refine zp E (zAe E rfl rfl) ?_; clear E a; intro a E
    iterate 5 (refine zn E rfl ?_; clear E a; intro a E)
    refine zp E (zAk E rfl rfl rfl rfl) ?_; clear E a; intro a E
    refine zp E (zAe E rfl rfl) ?_; clear E a; intro a E
    iterate 5 (refine zn E rfl ?_; clear E a; intro a E)
    refine zp E (zAk E rfl rfl rfl rfl) ?_; clear E a; intro a E
    refine wpList_nil ?_
    refine zAf hK ?_; clear hK; clear K
    refine zCe E rfl rfl ?_
    refine wp_seq_k ?_; intro K hK
    replace E := E.keep (e' := [(2, _), (3, _), (4, _)]) (zAa rfl (zAa rfl (zAa rfl (zAm))))
    refine zAb ?_
    refine zp E (zAd E rfl rfl) ?_; clear E a; intro a E
    refine wpList_nil ?_
    refine zAf hK ?_; clear hK; clear K
    refine wp_ret ?_
    refine zAy ?_; clear hK; clear K
    refine ret1 E rfl rfl ?_
    exact ⟨_, rfl, _, rfl, ⟨fun q => Bool.noConfusion q, by rintro rfl; first | exact absurd rfl hb12n | exact absurd rfl hb26n | exact absurd rfl hb33n | exact absurd rfl hb40n | exact absurd rfl hb47n | (simp at hb19; done) | (simp at hb; done)⟩, S.tail2.tr⟩
  · have hb12n := hb12; replace hb12n := Nrm.nrm hb12n
    refine zy E hb12 (by first | exact zAg (q := 1) E rfl rfl rfl | exact zAh (q := 1) E rfl rfl rfl) ?_; clear E a; intro a E
    refine zy E hb12 (by first | exact zAn E rfl rfl rfl (S.get (by repeat (first | exact pk1 | apply zAc))) rfl | exact zAj E rfl rfl rfl (by assumption)) ?_; clear E a; intro a E
    refine zy E hb12 (by first | exact zAg (q := 1) E rfl rfl rfl | exact zAh (q := 1) E rfl rfl rfl) ?_; clear E a; intro a E
    refine zy E hb12 (by first | exact zAn E rfl rfl rfl (S.get (by repeat (first | exact pk1 | apply zAc))) rfl | exact zAj E rfl rfl rfl (by assumption)) ?_; clear E a; intro a E
    refine zy E hb12 (by first | exact zDa E rfl rfl rfl | exact zBi E rfl rfl rfl rfl | exact zBs E rfl rfl rfl rfl | exact zBl E rfl rfl rfl) ?_; clear E a; intro a E
    refine zp E (zAi E rfl rfl hb12 rfl) ?_; clear E a; intro a E
    refine zp E (zAe E rfl rfl) ?_; clear E a; intro a E
    refine zAr E (t := 19) rfl (fun hb19 => ?_) (fun hb19 => ?_)
    · have hb19n := hb19; replace hb19n := Nrm.nrm hb19n
      iterate 5 (refine zn E hb19 ?_; clear E a; intro a E)
      refine zp E (zAk E rfl rfl hb19 rfl) ?_; clear E a; intro a E
      refine zp E (zAe E rfl rfl) ?_; clear E a; intro a E
      iterate 5 (refine zn E rfl ?_; clear E a; intro a E)
      refine zp E (zAk E rfl rfl rfl rfl) ?_; clear E a; intro a E
      refine zp E (zAe E rfl rfl) ?_; clear E a; intro a E
      iterate 5 (refine zn E rfl ?_; clear E a; intro a E)
      refine zp E (zAk E rfl rfl rfl rfl) ?_; clear E a; intro a E
      refine zp E (zAe E rfl rfl) ?_; clear E a; intro a E
      iterate 5 (refine zn E rfl ?_; clear E a; intro a E)
      refine zp E (zAk E rfl rfl rfl rfl) ?_; clear E a; intro a E
      refine zp E (zAe E rfl rfl) ?_; clear E a; intro a E
      iterate 5 (refine zn E rfl ?_; clear E a; intro a E)
      refine zp E (zAk E rfl rfl rfl rfl) ?_; clear E a; intro a E
      refine wpList_nil ?_
      refine zAf hK ?_; clear hK; clear K
      refine zCe E rfl rfl ?_
      refine wp_seq_k ?_; intro K hK
      replace E := E.keep (e' := [(2, _), (3, _), (4, _)]) (zAa rfl (zAa rfl (zAa rfl (zAm))))
      refine zAb ?_
      refine zp E (zAd E rfl rfl) ?_; clear E a; intro a E
      refine wpList_nil ?_
      refine zAf hK ?_; clear hK; clear K
      refine wp_ret ?_
      refine zAy ?_; clear hK; clear K
      refine ret1 E rfl rfl ?_
      exact ⟨_, rfl, _, rfl, ⟨fun q => Bool.noConfusion q, by rintro rfl; first | exact absurd rfl hb12n | exact absurd rfl hb26n | exact absurd rfl hb33n | exact absurd rfl hb40n | exact absurd rfl hb47n | (simp at hb19; done) | (simp at hb; done)⟩, S.tail2.tr⟩
    · have hb19n := hb19; replace hb19n := Nrm.nrm hb19n
      refine zy E hb19 (by first | exact zAg (q := 2) E rfl rfl rfl | exact zAh (q := 2) E rfl rfl rfl) ?_; clear E a; intro a E
      refine zy E hb19 (by first | exact zAn E rfl rfl rfl (S.get (by repeat (first | exact pk1 | apply zAc))) rfl | exact zAj E rfl rfl rfl (by assumption)) ?_; clear E a; intro a E
      refine zy E hb19 (by first | exact zAg (q := 2) E rfl rfl rfl | exact zAh (q := 2) E rfl rfl rfl) ?_; clear E a; intro a E
      refine zy E hb19 (by first | exact zAn E rfl rfl rfl (S.get (by repeat (first | exact pk1 | apply zAc))) rfl | exact zAj E rfl rfl rfl (by assumption)) ?_; clear E a; intro a E
      refine zy E hb19 (by first | exact zDa E rfl rfl rfl | exact zBi E rfl rfl rfl rfl | exact zBs E rfl rfl rfl rfl | exact zBl E rfl rfl rfl) ?_; clear E a; intro a E
      refine zp E (zAi E rfl rfl hb19 rfl) ?_; clear E a; intro a E
      refine zp E (zAe E rfl rfl) ?_; clear E a; intro a E
      refine zAr E (t := 26) rfl (fun hb26 => ?_) (fun hb26 => ?_)
      · have hb26n := hb26; replace hb26n := Nrm.nrm hb26n
        iterate 5 (refine zn E hb26 ?_; clear E a; intro a E)
        refine zp E (zAk E rfl rfl hb26 rfl) ?_; clear E a; intro a E
        refine zp E (zAe E rfl rfl) ?_; clear E a; intro a E
        iterate 5 (refine zn E rfl ?_; clear E a; intro a E)
        refine zp E (zAk E rfl rfl rfl rfl) ?_; clear E a; intro a E
        refine zp E (zAe E rfl rfl) ?_; clear E a; intro a E
        iterate 5 (refine zn E rfl ?_; clear E a; intro a E)
        refine zp E (zAk E rfl rfl rfl rfl) ?_; clear E a; intro a E
        refine zp E (zAe E rfl rfl) ?_; clear E a; intro a E
        iterate 5 (refine zn E rfl ?_; clear E a; intro a E)
        refine zp E (zAk E rfl rfl rfl rfl) ?_; clear E a; intro a E
        refine wpList_nil ?_
        refine zAf hK ?_; clear hK; clear K
        refine zCe E rfl rfl ?_
        refine wp_seq_k ?_; intro K hK
        replace E := E.keep (e' := [(2, _), (3, _), (4, _)]) (zAa rfl (zAa rfl (zAa rfl (zAm))))
        refine zAb ?_
        refine zp E (zAd E rfl rfl) ?_; clear E a; intro a E
        refine wpList_nil ?_
        refine zAf hK ?_; clear hK; clear K
        refine wp_ret ?_
        refine zAy ?_; clear hK; clear K
        refine ret1 E rfl rfl ?_
        exact ⟨_, rfl, _, rfl, ⟨fun q => Bool.noConfusion q, by rintro rfl; first | exact absurd rfl hb12n | exact absurd rfl hb26n | exact absurd rfl hb33n | exact absurd rfl hb40n | exact absurd rfl hb47n | (simp at hb19; done) | (simp at hb; done)⟩, S.tail2.tr⟩
      · have hb26n := hb26; replace hb26n := Nrm.nrm hb26n
        refine zy E hb26 (by first | exact zAg (q := 3) E rfl rfl rfl | exact zAh (q := 3) E rfl rfl rfl) ?_; clear E a; intro a E
        refine zy E hb26 (by first | exact zAn E rfl rfl rfl (S.get (by repeat (first | exact pk1 | apply zAc))) rfl | exact zAj E rfl rfl rfl (by assumption)) ?_; clear E a; intro a E
        refine zy E hb26 (by first | exact zAg (q := 3) E rfl rfl rfl | exact zAh (q := 3) E rfl rfl rfl) ?_; clear E a; intro a E
        refine zy E hb26 (by first | exact zAn E rfl rfl rfl (S.get (by repeat (first | exact pk1 | apply zAc))) rfl | exact zAj E rfl rfl rfl (by assumption)) ?_; clear E a; intro a E
        refine zy E hb26 (by first | exact zDa E rfl rfl rfl | exact zBi E rfl rfl rfl rfl | exact zBs E rfl rfl rfl rfl | exact zBl E rfl rfl rfl) ?_; clear E a; intro a E
        refine zp E (zAi E rfl rfl hb26 rfl) ?_; clear E a; intro a E
        refine zp E (zAe E rfl rfl) ?_; clear E a; intro a E
        refine zAr E (t := 33) rfl (fun hb33 => ?_) (fun hb33 => ?_)
        · have hb33n := hb33; replace hb33n := Nrm.nrm hb33n
          iterate 5 (refine zn E hb33 ?_; clear E a; intro a E)
          refine zp E (zAk E rfl rfl hb33 rfl) ?_; clear E a; intro a E
          refine zp E (zAe E rfl rfl) ?_; clear E a; intro a E
          iterate 5 (refine zn E rfl ?_; clear E a; intro a E)
          refine zp E (zAk E rfl rfl rfl rfl) ?_; clear E a; intro a E
          refine zp E (zAe E rfl rfl) ?_; clear E a; intro a E
          iterate 5 (refine zn E rfl ?_; clear E a; intro a E)
          refine zp E (zAk E rfl rfl rfl rfl) ?_; clear E a; intro a E
          refine wpList_nil ?_
          refine zAf hK ?_; clear hK; clear K
          refine zCe E rfl rfl ?_
          refine wp_seq_k ?_; intro K hK
          replace E := E.keep (e' := [(2, _), (3, _), (4, _)]) (zAa rfl (zAa rfl (zAa rfl (zAm))))
          refine zAb ?_
          refine zp E (zAd E rfl rfl) ?_; clear E a; intro a E
          refine wpList_nil ?_
          refine zAf hK ?_; clear hK; clear K
          refine wp_ret ?_
          refine zAy ?_; clear hK; clear K
          refine ret1 E rfl rfl ?_
          exact ⟨_, rfl, _, rfl, ⟨fun q => Bool.noConfusion q, by rintro rfl; first | exact absurd rfl hb12n | exact absurd rfl hb26n | exact absurd rfl hb33n | exact absurd rfl hb40n | exact absurd rfl hb47n | (simp at hb19; done) | (simp at hb; done)⟩, S.tail2.tr⟩
        · have hb33n := hb33; replace hb33n := Nrm.nrm hb33n
          refine zy E hb33 (by first | exact zAg (q := 4) E rfl rfl rfl | exact zAh (q := 4) E rfl rfl rfl) ?_; clear E a; intro a E
          refine zy E hb33 (by first | exact zAn E rfl rfl rfl (S.get (by repeat (first | exact pk1 | apply zAc))) rfl | exact zAj E rfl rfl rfl (by assumption)) ?_; clear E a; intro a E
          refine zy E hb33 (by first | exact zAg (q := 4) E rfl rfl rfl | exact zAh (q := 4) E rfl rfl rfl) ?_; clear E a; intro a E
          refine zy E hb33 (by first | exact zAn E rfl rfl rfl (S.get (by repeat (first | exact pk1 | apply zAc))) rfl | exact zAj E rfl rfl rfl (by assumption)) ?_; clear E a; intro a E
          refine zy E hb33 (by first | exact zDa E rfl rfl rfl | exact zBi E rfl rfl rfl rfl | exact zBs E rfl rfl rfl rfl | exact zBl E rfl rfl rfl) ?_; clear E a; intro a E
          refine zp E (zAi E rfl rfl hb33 rfl) ?_; clear E a; intro a E
          refine zp E (zAe E rfl rfl) ?_; clear E a; intro a E
          refine zAr E (t := 40) rfl (fun hb40 => ?_) (fun hb40 => ?_)
          · have hb40n := hb40; replace hb40n := Nrm.nrm hb40n
            iterate 5 (refine zn E hb40 ?_; clear E a; intro a E)
            refine zp E (zAk E rfl rfl hb40 rfl) ?_; clear E a; intro a E
            refine zp E (zAe E rfl rfl) ?_; clear E a; intro a E
            iterate 5 (refine zn E rfl ?_; clear E a; intro a E)
            refine zp E (zAk E rfl rfl rfl rfl) ?_; clear E a; intro a E
            refine wpList_nil ?_
            refine zAf hK ?_; clear hK; clear K
            refine zCe E rfl rfl ?_
            refine wp_seq_k ?_; intro K hK
            replace E := E.keep (e' := [(2, _), (3, _), (4, _)]) (zAa rfl (zAa rfl (zAa rfl (zAm))))
            refine zAb ?_
            refine zp E (zAd E rfl rfl) ?_; clear E a; intro a E
            refine wpList_nil ?_
            refine zAf hK ?_; clear hK; clear K
            refine wp_ret ?_
            refine zAy ?_; clear hK; clear K
            refine ret1 E rfl rfl ?_
            exact ⟨_, rfl, _, rfl, ⟨fun q => Bool.noConfusion q, by rintro rfl; first | exact absurd rfl hb12n | exact absurd rfl hb26n | exact absurd rfl hb33n | exact absurd rfl hb40n | exact absurd rfl hb47n | (simp at hb19; done) | (simp at hb; done)⟩, S.tail2.tr⟩
          · have hb40n := hb40; replace hb40n := Nrm.nrm hb40n
            refine zy E hb40 (by first | exact zAg (q := 5) E rfl rfl rfl | exact zAh (q := 5) E rfl rfl rfl) ?_; clear E a; intro a E
            refine zy E hb40 (by first | exact zAn E rfl rfl rfl (S.get (by repeat (first | exact pk1 | apply zAc))) rfl | exact zAj E rfl rfl rfl (by assumption)) ?_; clear E a; intro a E
            refine zy E hb40 (by first | exact zAg (q := 5) E rfl rfl rfl | exact zAh (q := 5) E rfl rfl rfl) ?_; clear E a; intro a E
            refine zy E hb40 (by first | exact zAn E rfl rfl rfl (S.get (by repeat (first | exact pk1 | apply zAc))) rfl | exact zAj E rfl rfl rfl (by assumption)) ?_; clear E a; intro a E
            refine zy E hb40 (by first | exact zDa E rfl rfl rfl | exact zBi E rfl rfl rfl rfl | exact zBs E rfl rfl rfl rfl | exact zBl E rfl rfl rfl) ?_; clear E a; intro a E
            refine zp E (zAi E rfl rfl hb40 rfl) ?_; clear E a; intro a E
            refine zp E (zAe E rfl rfl) ?_; clear E a; intro a E
            refine zAr E (t := 47) rfl (fun hb47 => ?_) (fun hb47 => ?_)
            · have hb47n := hb47; replace hb47n := Nrm.nrm hb47n
              iterate 5 (refine zn E hb47 ?_; clear E a; intro a E)
              refine zp E (zAk E rfl rfl hb47 rfl) ?_; clear E a; intro a E
              refine wpList_nil ?_
              refine zAf hK ?_; clear hK; clear K
              refine zCe E rfl rfl ?_
              refine wp_seq_k ?_; intro K hK
              replace E := E.keep (e' := [(2, _), (3, _), (4, _)]) (zAa rfl (zAa rfl (zAa rfl (zAm))))
              refine zAb ?_
              refine zp E (zAd E rfl rfl) ?_; clear E a; intro a E
              refine wpList_nil ?_
              refine zAf hK ?_; clear hK; clear K
              refine wp_ret ?_
              refine zAy ?_; clear hK; clear K
              refine ret1 E rfl rfl ?_
              exact ⟨_, rfl, _, rfl, ⟨fun q => Bool.noConfusion q, by rintro rfl; first | exact absurd rfl hb12n | exact absurd rfl hb26n | exact absurd rfl hb33n | exact absurd rfl hb40n | exact absurd rfl hb47n | (simp at hb19; done) | (simp at hb; done)⟩, S.tail2.tr⟩
            · have hb47n := hb47; replace hb47n := Nrm.nrm hb47n
              refine zy E hb47 (by first | exact zAg (q := 6) E rfl rfl rfl | exact zAh (q := 6) E rfl rfl rfl) ?_; clear E a; intro a E
              refine zy E hb47 (by first | exact zAn E rfl rfl rfl (S.get (by repeat (first | exact pk1 | apply zAc))) rfl | exact zAj E rfl rfl rfl (by assumption)) ?_; clear E a; intro a E
              refine zy E hb47 (by first | exact zAg (q := 6) E rfl rfl rfl | exact zAh (q := 6) E rfl rfl rfl) ?_; clear E a; intro a E
              refine zy E hb47 (by first | exact zAn E rfl rfl rfl (S.get (by repeat (first | exact pk1 | apply zAc))) rfl | exact zAj E rfl rfl rfl (by assumption)) ?_; clear E a; intro a E
              refine zy E hb47 (by first | exact zDa E rfl rfl rfl | exact zBi E rfl rfl rfl rfl | exact zBs E rfl rfl rfl rfl | exact zBl E rfl rfl rfl) ?_; clear E a; intro a E
              refine zp E (zAi E rfl rfl hb47 rfl) ?_; clear E a; intro a E
              refine wpList_nil ?_
              refine zAf hK ?_; clear hK; clear K
              refine zBh E rfl (fun hb => ?_) (fun hb => ?_)
              · replace hb := Nrm.nrm hb
                refine wp_seq_k ?_; intro K hK
                replace E := E.keep (e' := [(2, _), (3, _), (4, _)]) (zAa rfl (zAa rfl (zAa rfl (zAm))))
                refine zAb ?_
                refine zp E (zAd E rfl rfl) ?_; clear E a; intro a E
                refine wpList_nil ?_
                refine zAf hK ?_; clear hK; clear K
                refine wp_ret ?_
                refine zAy ?_; clear hK; clear K
                refine ret1 E rfl rfl ?_
                exact ⟨_, rfl, _, rfl, ⟨fun q => Bool.noConfusion q, by rintro rfl; first | exact absurd rfl hb12n | exact absurd rfl hb26n | exact absurd rfl hb33n | exact absurd rfl hb40n | exact absurd rfl hb47n | (simp at hb19; done) | (simp at hb; done)⟩, S.tail2.tr⟩
              · replace hb := Nrm.nrm hb
                have hsn := hb
                refine wp_skip ?_
                refine zAf hK ?_; clear hK; clear K
                iterate 2 (refine wp_seq_k ?_; intro K hK)
                replace E := E.keep (e' := [(2, _), (3, _), (4, _)]) (zAa rfl (zAa rfl (zAa rfl (zAm))))
                refine zAb ?_
                refine zp E (by first | exact zAg (q := 8) E rfl rfl rfl | exact zAh (q := 8) E rfl rfl rfl) ?_; clear E a; intro a E
                refine zp E (by first | exact zAn E rfl rfl rfl (S.get (by repeat (first | exact pk1 | apply zAc))) rfl | exact zAj E rfl rfl rfl (by assumption)) ?_; clear E a; intro a E
                refine zp E (by first | exact zAg (q := 8) E rfl rfl rfl | exact zAh (q := 8) E rfl rfl rfl) ?_; clear E a; intro a E
                refine zp E (by first | exact zAn E rfl rfl rfl (S.get (by repeat (first | exact pk1 | apply zAc))) rfl | exact zAj E rfl rfl rfl (by assumption)) ?_; clear E a; intro a E
                refine zp E (by first | exact zDa E rfl rfl rfl | exact zBi E rfl rfl rfl rfl | exact zBs E rfl rfl rfl rfl | exact zBl E rfl rfl rfl) ?_; clear E a; intro a E
                refine zp E (zAe E rfl rfl) ?_; clear E a; intro a E
                refine zAr E (t := 59) rfl (fun hb59 => ?_) (fun hb59 => ?_)
                · have hb59n := hb59; replace hb59n := Nrm.nrm hb59n
                  iterate 5 (refine zn E hb59 ?_; clear E a; intro a E)
                  refine zp E (zAk E rfl rfl hb59 rfl) ?_; clear E a; intro a E
                  refine zp E (zAe E rfl rfl) ?_; clear E a; intro a E
                  iterate 5 (refine zn E rfl ?_; clear E a; intro a E)
                  refine zp E (zAk E rfl rfl rfl rfl) ?_; clear E a; intro a E
                  refine zp E (zAe E rfl rfl) ?_; clear E a; intro a E
                  iterate 7 (refine zn E rfl ?_; clear E a; intro a E)
                  refine zp E (zAk E rfl rfl rfl rfl) ?_; clear E a; intro a E
                  refine zp E (zAe E rfl rfl) ?_; clear E a; intro a E
                  iterate 7 (refine zn E rfl ?_; clear E a; intro a E)
                  refine zp E (zAk E rfl rfl rfl rfl) ?_; clear E a; intro a E
                  refine zp E (zAe E rfl rfl) ?_; clear E a; intro a E
                  iterate 7 (refine zn E rfl ?_; clear E a; intro a E)
                  refine zp E (zAk E rfl rfl rfl rfl) ?_; clear E a; intro a E
                  refine wpList_nil ?_
                  refine zAf hK ?_; clear hK; clear K
                  refine zCe E rfl rfl ?_
                  refine wp_seq_k ?_; intro K hK
                  replace E := E.keep (e' := [(2, _), (3, _), (4, _)]) (zAa rfl (zAa rfl (zAa rfl (zAm))))
                  refine zAb ?_
                  refine zp E (zAd E rfl rfl) ?_; clear E a; intro a E
                  refine wpList_nil ?_
                  refine zAf hK ?_; clear hK; clear K
                  refine wp_ret ?_
                  refine zAy ?_; clear hK; clear K
                  refine ret1 E rfl rfl ?_
                  exact ⟨_, rfl, _, rfl, ⟨fun q => Bool.noConfusion q, by rintro rfl; first | exact absurd rfl hb59n | exact absurd rfl hb66n | exact absurd rfl hb73n | exact absurd rfl hb82n | exact absurd rfl hb91n | (simp at hb; done)⟩, S.tail2.tr⟩
                · have hb59n := hb59; replace hb59n := Nrm.nrm hb59n
                  refine zy E hb59 (by first | exact zAg (q := 9) E rfl rfl rfl | exact zAh (q := 9) E rfl rfl rfl) ?_; clear E a; intro a E
                  refine zy E hb59 (by first | exact zAn E rfl rfl rfl (S.get (by repeat (first | exact pk1 | apply zAc))) rfl | exact zAj E rfl rfl rfl (by assumption)) ?_; clear E a; intro a E
                  refine zy E hb59 (by first | exact zAg (q := 9) E rfl rfl rfl | exact zAh (q := 9) E rfl rfl rfl) ?_; clear E a; intro a E
                  refine zy E hb59 (by first | exact zAn E rfl rfl rfl (S.get (by repeat (first | exact pk1 | apply zAc))) rfl | exact zAj E rfl rfl rfl (by assumption)) ?_; clear E a; intro a E
                  refine zy E hb59 (by first | exact zDa E rfl rfl rfl | exact zBi E rfl rfl rfl rfl | exact zBs E rfl rfl rfl rfl | exact zBl E rfl rfl rfl) ?_; clear E a; intro a E
                  refine zp E (zAi E rfl rfl hb59 rfl) ?_; clear E a; intro a E
                  refine zp E (zAe E rfl rfl) ?_; clear E a; intro a E
                  refine zAr E (t := 66) rfl (fun hb66 => ?_) (fun hb66 => ?_)
                  · have hb66n := hb66; replace hb66n := Nrm.nrm hb66n
                    iterate 5 (refine zn E hb66 ?_; clear E a; intro a E)
                    refine zp E (zAk E rfl rfl hb66 rfl) ?_; clear E a; intro a E
                    refine zp E (zAe E rfl rfl) ?_; clear E a; intro a E
                    iterate 7 (refine zn E rfl ?_; clear E a; intro a E)
                    refine zp E (zAk E rfl rfl rfl rfl) ?_; clear E a; intro a E
                    refine zp E (zAe E rfl rfl) ?_; clear E a; intro a E
                    iterate 7 (refine zn E rfl ?_; clear E a; intro a E)
                    refine zp E (zAk E rfl rfl rfl rfl) ?_; clear E a; intro a E
                    refine zp E (zAe E rfl rfl) ?_; clear E a; intro a E
                    iterate 7 (refine zn E rfl ?_; clear E a; intro a E)
                    refine zp E (zAk E rfl rfl rfl rfl) ?_; clear E a; intro a E
                    refine wpList_nil ?_
                    refine zAf hK ?_; clear hK; clear K
                    refine zCe E rfl rfl ?_
                    refine wp_seq_k ?_; intro K hK
                    replace E := E.keep (e' := [(2, _), (3, _), (4, _)]) (zAa rfl (zAa rfl (zAa rfl (zAm))))
                    refine zAb ?_
                    refine zp E (zAd E rfl rfl) ?_; clear E a; intro a E
                    refine wpList_nil ?_
                    refine zAf hK ?_; clear hK; clear K
                    refine wp_ret ?_
                    refine zAy ?_; clear hK; clear K
                    refine ret1 E rfl rfl ?_
                    exact ⟨_, rfl, _, rfl, ⟨fun q => Bool.noConfusion q, by rintro rfl; first | exact absurd rfl hb59n | exact absurd rfl hb66n | exact absurd rfl hb73n | exact absurd rfl hb82n | exact absurd rfl hb91n | (simp at hb; done)⟩, S.tail2.tr⟩
                  · have hb66n := hb66; replace hb66n := Nrm.nrm hb66n
                    refine zy E hb66 (by first | exact zAg (q := 10) E rfl rfl rfl | exact zAh (q := 10) E rfl rfl rfl) ?_; clear E a; intro a E
                    refine zy E hb66 (by first | exact zAn E rfl rfl rfl (S.get (by repeat (first | exact pk1 | apply zAc))) rfl | exact zAj E rfl rfl rfl (by assumption)) ?_; clear E a; intro a E
                    refine zy E hb66 (by first | exact zAg (q := 10) E rfl rfl rfl | exact zAh (q := 10) E rfl rfl rfl) ?_; clear E a; intro a E
                    refine zy E hb66 (by first | exact zAn E rfl rfl rfl (S.get (by repeat (first | exact pk1 | apply zAc))) rfl | exact zAj E rfl rfl rfl (by assumption)) ?_; clear E a; intro a E
                    refine zy E hb66 (by first | exact zDa E rfl rfl rfl | exact zBi E rfl rfl rfl rfl | exact zBs E rfl rfl rfl rfl | exact zBl E rfl rfl rfl) ?_; clear E a; intro a E
                    refine zp E (zAi E rfl rfl hb66 rfl) ?_; clear E a; intro a E
                    refine zp E (zAe E rfl rfl) ?_; clear E a; intro a E
                    refine zAr E (t := 73) rfl (fun hb73 => ?_) (fun hb73 => ?_)
                    · have hb73n := hb73; replace hb73n := Nrm.nrm hb73n
                      iterate 7 (refine zn E hb73 ?_; clear E a; intro a E)
                      refine zp E (zAk E rfl rfl hb73 rfl) ?_; clear E a; intro a E
                      refine zp E (zAe E rfl rfl) ?_; clear E a; intro a E
                      iterate 7 (refine zn E rfl ?_; clear E a; intro a E)
                      refine zp E (zAk E rfl rfl rfl rfl) ?_; clear E a; intro a E
                      refine zp E (zAe E rfl rfl) ?_; clear E a; intro a E
                      iterate 7 (refine zn E rfl ?_; clear E a; intro a E)
                      refine zp E (zAk E rfl rfl rfl rfl) ?_; clear E a; intro a E
                      refine wpList_nil ?_
                      refine zAf hK ?_; clear hK; clear K
                      refine zCe E rfl rfl ?_
                      refine wp_seq_k ?_; intro K hK
                      replace E := E.keep (e' := [(2, _), (3, _), (4, _)]) (zAa rfl (zAa rfl (zAa rfl (zAm))))
                      refine zAb ?_
                      refine zp E (zAd E rfl rfl) ?_; clear E a; intro a E
                      refine wpList_nil ?_
                      refine zAf hK ?_; clear hK; clear K
                      refine wp_ret ?_
                      refine zAy ?_; clear hK; clear K
                      refine ret1 E rfl rfl ?_
                      exact ⟨_, rfl, _, rfl, ⟨fun q => Bool.noConfusion q, by rintro rfl; first | exact absurd rfl hb59n | exact absurd rfl hb66n | exact absurd rfl hb73n | exact absurd rfl hb82n | exact absurd rfl hb91n | (simp at hb; done)⟩, S.tail2.tr⟩
                    · have hb73n := hb73; replace hb73n := Nrm.nrm hb73n
                      refine zy E hb73 (by first | exact zAg (q := 7) E rfl rfl rfl | exact zAh (q := 7) E rfl rfl rfl) ?_; clear E a; intro a E
                      refine zy E hb73 (by first | exact zAn E rfl rfl rfl (S.get (by repeat (first | exact pk1 | apply zAc))) rfl | exact zAj E rfl rfl rfl (by assumption)) ?_; clear E a; intro a E
                      refine zy E hb73 (by first | exact zBu E rfl rfl rfl | exact zAx E rfl rfl rfl | exact zAq E rfl rfl rfl) ?_; clear E a; intro a E
                      refine zy E hb73 (by first | exact zAg (q := 7) E rfl rfl rfl | exact zAh (q := 7) E rfl rfl rfl) ?_; clear E a; intro a E
                      refine zy E hb73 (by first | exact zAn E rfl rfl rfl (S.get (by repeat (first | exact pk1 | apply zAc))) rfl | exact zAj E rfl rfl rfl (by assumption)) ?_; clear E a; intro a E
                      refine zy E hb73 (by first | exact zBu E rfl rfl rfl | exact zAx E rfl rfl rfl | exact zAq E rfl rfl rfl) ?_; clear E a; intro a E
                      refine zy E hb73 (by first | exact zDa E rfl rfl rfl | exact zBi E rfl rfl rfl rfl | exact zBs E rfl rfl rfl rfl | exact zBl E rfl rfl rfl) ?_; clear E a; intro a E
                      refine zp E (zAi E rfl rfl hb73 rfl) ?_; clear E a; intro a E
                      refine zp E (zAe E rfl rfl) ?_; clear E a; intro a E
                      refine zAr E (t := 82) rfl (fun hb82 => ?_) (fun hb82 => ?_)
                      · have hb82n := hb82; replace hb82n := Nrm.nrm hb82n
                        iterate 7 (refine zn E hb82 ?_; clear E a; intro a E)
                        refine zp E (zAk E rfl rfl hb82 rfl) ?_; clear E a; intro a E
                        refine zp E (zAe E rfl rfl) ?_; clear E a; intro a E
                        iterate 7 (refine zn E rfl ?_; clear E a; intro a E)
                        refine zp E (zAk E rfl rfl rfl rfl) ?_; clear E a; intro a E
                        refine wpList_nil ?_
                        refine zAf hK ?_; clear hK; clear K
                        refine zCe E rfl rfl ?_
                        refine wp_seq_k ?_; intro K hK
                        replace E := E.keep (e' := [(2, _), (3, _), (4, _)]) (zAa rfl (zAa rfl (zAa rfl (zAm))))
                        refine zAb ?_
                        refine zp E (zAd E rfl rfl) ?_; clear E a; intro a E
                        refine wpList_nil ?_
                        refine zAf hK ?_; clear hK; clear K
                        refine wp_ret ?_
                        refine zAy ?_; clear hK; clear K
                        refine ret1 E rfl rfl ?_
                        exact ⟨_, rfl, _, rfl, ⟨fun q => Bool.noConfusion q, by rintro rfl; first | exact absurd rfl hb59n | exact absurd rfl hb66n | exact absurd rfl hb73n | exact absurd rfl hb82n | exact absurd rfl hb91n | (simp at hb; done)⟩, S.tail2.tr⟩
                      · have hb82n := hb82; replace hb82n := Nrm.nrm hb82n
                        refine zy E hb82 (by first | exact zAg (q := 11) E rfl rfl rfl | exact zAh (q := 11) E rfl rfl rfl) ?_; clear E a; intro a E
                        refine zy E hb82 (by first | exact zAn E rfl rfl rfl (S.get (by repeat (first | exact pk1 | apply zAc))) rfl | exact zAj E rfl rfl rfl (by assumption)) ?_; clear E a; intro a E
                        refine zy E hb82 (by first | exact zBu E rfl rfl rfl | exact zAx E rfl rfl rfl | exact zAq E rfl rfl rfl) ?_; clear E a; intro a E
                        refine zy E hb82 (by first | exact zAg (q := 11) E rfl rfl rfl | exact zAh (q := 11) E rfl rfl rfl) ?_; clear E a; intro a E
                        refine zy E hb82 (by first | exact zAn E rfl rfl rfl (S.get (by repeat (first | exact pk1 | apply zAc))) rfl | exact zAj E rfl rfl rfl (by assumption)) ?_; clear E a; intro a E
                        refine zy E hb82 (by first | exact zBu E rfl rfl rfl | exact zAx E rfl rfl rfl | exact zAq E rfl rfl rfl) ?_; clear E a; intro a E
                        refine zy E hb82 (by first | exact zDa E rfl rfl rfl | exact zBi E rfl rfl rfl rfl | exact zBs E rfl rfl rfl rfl | exact zBl E rfl rfl rfl) ?_; clear E a; intro a E
                        refine zp E (zAi E rfl rfl hb82 rfl) ?_; clear E a; intro a E
                        refine zp E (zAe E rfl rfl) ?_; clear E a; intro a E
                        refine zAr E (t := 91) rfl (fun hb91 => ?_) (fun hb91 => ?_)
                        · have hb91n := hb91; replace hb91n := Nrm.nrm hb91n
                          iterate 7 (refine zn E hb91 ?_; clear E a; intro a E)
                          refine zp E (zAk E rfl rfl hb91 rfl) ?_; clear E a; intro a E
                          refine wpList_nil ?_
                          refine zAf hK ?_; clear hK; clear K
                          refine zCe E rfl rfl ?_
                          refine wp_seq_k ?_; intro K hK
                          replace E := E.keep (e' := [(2, _), (3, _), (4, _)]) (zAa rfl (zAa rfl (zAa rfl (zAm))))
                          refine zAb ?_
                          refine zp E (zAd E rfl rfl) ?_; clear E a; intro a E
                          refine wpList_nil ?_
                          refine zAf hK ?_; clear hK; clear K
                          refine wp_ret ?_
                          refine zAy ?_; clear hK; clear K
                          refine ret1 E rfl rfl ?_
                          exact ⟨_, rfl, _, rfl, ⟨fun q => Bool.noConfusion q, by rintro rfl; first | exact absurd rfl hb59n | exact absurd rfl hb66n | exact absurd rfl hb73n | exact absurd rfl hb82n | exact absurd rfl hb91n | (simp at hb; done)⟩, S.tail2.tr⟩
                        · have hb91n := hb91; replace hb91n := Nrm.nrm hb91n
                          refine zy E hb91 (by first | exact zAg (q := 12) E rfl rfl rfl | exact zAh (q := 12) E rfl rfl rfl) ?_; clear E a; intro a E
                          refine zy E hb91 (by first | exact zAn E rfl rfl rfl (S.get (by repeat (first | exact pk1 | apply zAc))) rfl | exact zAj E rfl rfl rfl (by assumption)) ?_; clear E a; intro a E
                          refine zy E hb91 (zCi E rfl rfl rfl rfl rfl ha.dr (S.stab.at (List.Mem.tail _ (List.Mem.tail _ ma)))) ?_; clear E a; intro a E
                          refine zy E hb91 (by first | exact zAg (q := 12) E rfl rfl rfl | exact zAh (q := 12) E rfl rfl rfl) ?_; clear E a; intro a E
                          refine zy E hb91 (by first | exact zAn E rfl rfl rfl (S.get (by repeat (first | exact pk1 | apply zAc))) rfl | exact zAj E rfl rfl rfl (by assumption)) ?_; clear E a; intro a E
                          refine zy E hb91 (zCi E rfl rfl rfl rfl rfl hq.dr (S.stab.at (List.Mem.tail _ (List.Mem.tail _ mb)))) ?_; clear E a; intro a E
                          refine zy E hb91 (by first | exact zDa E rfl rfl rfl | exact zBi E rfl rfl rfl rfl | exact zBs E rfl rfl rfl rfl | exact zBl E rfl rfl rfl) ?_; clear E a; intro a E
                          refine zp E (zAi E rfl rfl hb91 rfl) ?_; clear E a; intro a E
                          refine wpList_nil ?_
                          refine zAf hK ?_; clear hK; clear K
                          refine zBh E rfl (fun hb => ?_) (fun hb => ?_)
                          · replace hb := Nrm.nrm hb
                            refine wp_seq_k ?_; intro K hK
                            replace E := E.keep (e' := [(2, _), (3, _), (4, _)]) (zAa rfl (zAa rfl (zAa rfl (zAm))))
                            refine zAb ?_
                            refine zp E (zAd E rfl rfl) ?_; clear E a; intro a E
                            refine wpList_nil ?_
                            refine zAf hK ?_; clear hK; clear K
                            refine wp_ret ?_
                            refine zAy ?_; clear hK; clear K
                            refine ret1 E rfl rfl ?_
                            exact ⟨_, rfl, _, rfl, ⟨fun q => Bool.noConfusion q, by rintro rfl; first | exact absurd rfl hb59n | exact absurd rfl hb66n | exact absurd rfl hb73n | exact absurd rfl hb82n | exact absurd rfl hb91n | (simp at hb; done)⟩, S.tail2.tr⟩
                          · replace hb := Nrm.nrm hb
                            have hdt := hb
                            refine wp_skip ?_
                            refine zAf hK ?_; clear hK; clear K
                            iterate 2 (refine wp_seq_k ?_; intro K hK)
                            replace E := E.keep (e' := [(2, _), (3, _), (4, _)]) (zAa rfl (zAa rfl (zAa rfl (zAm))))
                            have e2 : ra.name = rb.name := by simpa using hb19
                            have e7 : ra.snap = rb.snap := by simpa using hsn
                            have e13 : ra.data = rb.data := by simpa using hdt
                            have e8 : ra.props.length = rb.props.length := by omega
                            have e12 : ra.keep.length = rb.keep.length := by omega
                            refine zAb ?_
                            refine zp E (zAd E rfl rfl) ?_; clear E a; intro a E
                            refine wpList_nil ?_
                            refine zAf hK ?_; clear hK; clear K
                            refine wp_block ?_
                            refine wp_loop_ghost (fun (m : Nat) (a : Act) (w' : World) => ∃ i : Nat, m = ra.props.length - i ∧ i ≤ ra.props.length ∧ ra.props.take i = rb.props.take i ∧ St w0 As w' ([(b3, cel (rb.cells (.slice a4 rb.props.length c4) (.slice a5 rb.keep.length c5) (.slice a6 rb.data.length c6)) 26)] :: [(b2, cel (ra.cells (.slice a1 ra.props.length c1) (.slice a2 ra.keep.length c2) (.slice a3 ra.data.length c3)) 26)] :: As) ∧ Fr a 136 [(2, ptr b2), (3, ptr b3), (4, .bool false), (5, .int .i64 i)]) (ra.props.length) ?_ ?_
                            · exact ⟨0, by omega, by omega, rfl, S, E.keep (zAa rfl (zAa rfl (zAa rfl (zAa rfl zAm))))⟩
                            clear E; clear a; (try clear S); rintro m a w ⟨i, rfl, hi, he, S, E⟩
                            iterate 2 (refine wp_seq_k ?_; intro K hK)
                            refine zAb ?_
                            refine zp E (zAe E rfl rfl) ?_; clear E a; intro a E
                            refine zp E (by first | exact zAg (q := 7) E rfl rfl rfl | exact zAh (q := 7) E rfl rfl rfl) ?_; clear E a; intro a E
                            refine zp E (by first | exact zAn E rfl rfl rfl (S.get (by repeat (first | exact pk1 | apply zAc))) rfl | exact zAj E rfl rfl rfl (by assumption)) ?_; clear E a; intro a E
                            refine zp E (by first | exact zBu E rfl rfl rfl | exact zAx E rfl rfl rfl | exact zAq E rfl rfl rfl) ?_; clear E a; intro a E
                            refine zp E (zCk E rfl rfl rfl) ?_; clear E a; intro a E
                            refine wpList_nil ?_
                            refine zAf hK ?_; clear hK; clear K
                            refine zBh E rfl (fun hb => ?_) (fun hb => ?_)
                            · replace hb := Nrm.nrm hb
                              refine wp_skip ?_
                              refine zAf hK ?_; clear hK; clear K
                              refine wp_seq_k ?_; intro K hK
                              refine wp_block ?_
                              refine wp_seq_k ?_; intro K hK
                              have hil : i < ra.props.length := by omega
                              have hil2 : i < rb.props.length := by omega
                              obtain ⟨q1, o1, rfl⟩ := ha.pr.addr (by omega)
                              obtain ⟨q2, o2, rfl⟩ := hq.pr.addr (by omega)
                              obtain ⟨x1, hx1⟩ : ∃ x, x = ra.props[i] := ⟨_, rfl⟩
                              obtain ⟨x2, hx2⟩ : ∃ x, x = rb.props[i] := ⟨_, rfl⟩
                              have hl1 := ha.pr.elem (lay := Prp.lay) Prp.lay_len (S.stab.at (List.Mem.tail _ (List.Mem.tail _ ma))) hil
                              have hl2 := hq.pr.elem (lay := Prp.lay) Prp.lay_len (S.stab.at (List.Mem.tail _ (List.Mem.tail _ mb))) hil2
                              rw [← hx1] at hl1
                              rw [← hx2] at hl2
                              refine zCb S (.ofL [(0, 0), (1, 0), (2, 0), (3, 0), (4, 0), (5, 0), (6, 0), (7, 0), (8, 0), (9, 0), (10, 0)]) (by kernel_rfl) (by kernel_rfl) ?_
                              clear S; intro w S
                              refine zm E rfl (fun w h => by first | exact zAg (q := 7) E rfl rfl rfl | exact zAh (q := 7) E rfl rfl rfl) ?_; clear E a; intro a E
                              refine zm E rfl (fun w h => by first | exact zAn E rfl rfl rfl (h.one (by repeat (first | exact mm1 | assumption | apply List.Mem.tail))) rfl | exact zAj E rfl rfl rfl (by assumption)) ?_; clear E a; intro a E
                              refine zm E rfl (fun w h => zAe E rfl rfl) ?_; clear E a; intro a E
                              refine zm E rfl (fun w h => by first | exact zBo E rfl rfl rfl rfl rfl rfl (by omega) | exact zBq E rfl rfl rfl rfl rfl rfl (by omega) | exact zBd E rfl rfl rfl rfl rfl rfl (by omega)) ?_; clear E a; intro a E
                              refine zm E rfl (fun w h => zEh (vs := [_, _]) E rfl rfl rfl rfl (ha.pr.elem (lay := Prp.lay) Prp.lay_len (h.at (List.Mem.tail _ (List.Mem.tail _ ma))) hil)) ?_; clear E a; intro a E
                              refine zm E rfl (fun w h => by first | exact zAg (q := 7) E rfl rfl rfl | exact zAh (q := 7) E rfl rfl rfl) ?_; clear E a; intro a E
                              refine zm E rfl (fun w h => by first | exact zAn E rfl rfl rfl (h.one (by repeat (first | exact mm1 | assumption | apply List.Mem.tail))) rfl | exact zAj E rfl rfl rfl (by assumption)) ?_; clear E a; intro a E
                              refine zm E rfl (fun w h => zAe E rfl rfl) ?_; clear E a; intro a E
                              refine zm E rfl (fun w h => by first | exact zBo E rfl rfl rfl rfl rfl rfl (by omega) | exact zBq E rfl rfl rfl rfl rfl rfl (by omega) | exact zBd E rfl rfl rfl rfl rfl rfl (by omega)) ?_; clear E a; intro a E
                              refine zm E rfl (fun w h => zEh (vs := [_, _]) E rfl rfl rfl rfl (hq.pr.elem (lay := Prp.lay) Prp.lay_len (h.at (List.Mem.tail _ (List.Mem.tail _ mb))) hil2)) ?_; clear E a; intro a E
                              refine zm E rfl (fun w h => rn_neq_strs E rfl rfl rfl rfl (by kernel_rfl) (by kernel_rfl) rfl rfl) ?_; clear E a; intro a E
                              refine zBz ?_
                              refine zAf hK ?_; clear hK; clear K
                              refine zBh E rfl (fun hb => ?_) (fun hb => ?_)
                              · replace hb := Nrm.nrm hb
                                refine wp_seq_k ?_; intro K hK
                                refine zAb ?_
                                refine zp E (zAd E rfl rfl) ?_; clear E a; intro a E
                                refine wpList_nil ?_
                                refine zAf hK ?_; clear hK; clear K
                                refine wp_ret ?_
                                refine zCj ?_
                                refine zAy ?_; clear hK; clear K
                                refine zAy ?_
                                refine zCj ?_
                                refine zAy ?_; clear hK; clear K
                                refine ret1 E rfl rfl ?_
                                exact ⟨_, rfl, _, rfl, ⟨fun q => Bool.noConfusion q, by rintro rfl; simp at hb⟩, S.tail2.tr⟩
                              · replace hb := Nrm.nrm hb
                                refine wp_skip ?_
                                refine zBe ?_
                                refine zAf hK ?_; clear hK; clear K
                                refine zAb ?_
                                refine zp E (zAe E rfl rfl) ?_; clear E a; intro a E
                                refine zp E (zBt E rfl rfl rfl (by first | exact zCh (y := 1) (by omega) | exact w_in (by omega) | exact zBw (by omega) | exact rfl)) ?_; clear E a; intro a E
                                refine zp E (zAd E rfl rfl) ?_; clear E a; intro a E
                                refine wpList_nil ?_
                                refine zBj ?_
                                refine ⟨_, by omega, i + 1, rfl, by omega, take_more he hil hil2 ?_, S, E.keep (zAa rfl (zAa rfl (zAa rfl (zAa rfl zAm))))⟩
                                have hb : ra.props[i].name = rb.props[i].name ∧ ra.props[i].value = rb.props[i].value := by simpa using hb
                                cases hra : ra.props[i]
                                cases hrb : rb.props[i]
                                rw [hra, hrb] at hb
                                simp only at hb
                                rw [hb.1, hb.2]
                            · replace hb := Nrm.nrm hb
                              refine wp_exit ?_
                              refine zBa ?_; clear hK; clear K
                              refine zBa ?_
                              refine zCg ?_
                              refine zAf hK ?_; clear hK; clear K
                              iterate 2 (refine wp_seq_k ?_; intro K hK)
                              have e8' : ra.props = rb.props := by rw [List.take_of_length_le (by omega), List.take_of_length_le (by omega)] at he; exact he
                              refine zAb ?_
                              refine zp E (zAd E rfl rfl) ?_; clear E a; intro a E
                              refine wpList_nil ?_
                              refine zAf hK ?_; clear hK; clear K
                              refine wp_block ?_
                              refine wp_loop_ghost (fun (m : Nat) (a : Act) (w' : World) => ∃ i : Nat, m = ra.keep.length - i ∧ i ≤ ra.keep.length ∧ ra.keep.take i = rb.keep.take i ∧ St w0 As w' ([(b3, cel (rb.cells (.slice a4 rb.props.length c4) (.slice a5 rb.keep.length c5) (.slice a6 rb.data.length c6)) 26)] :: [(b2, cel (ra.cells (.slice a1 ra.props.length c1) (.slice a2 ra.keep.length c2) (.slice a3 ra.data.length c3)) 26)] :: As) ∧ Fr a 136 [(2, ptr b2), (3, ptr b3), (4, .bool false), (6, .int .i64 i)]) (ra.keep.length) ?_ ?_
                              · exact ⟨0, by omega, by omega, rfl, S, E.keep (zAa rfl (zAa rfl (zAa rfl (zAa rfl zAm))))⟩
                              clear E; clear a; (try clear S); rintro m a w ⟨j, rfl, hj, hk, S, E⟩
                              iterate 2 (refine wp_seq_k ?_; intro K hK)
                              refine zAb ?_
                              refine zp E (zAe E rfl rfl) ?_; clear E a; intro a E
                              refine zp E (by first | exact zAg (q := 11) E rfl rfl rfl | exact zAh (q := 11) E rfl rfl rfl) ?_; clear E a; intro a E
                              refine zp E (by first | exact zAn E rfl rfl rfl (S.get (by repeat (first | exact pk1 | apply zAc))) rfl | exact zAj E rfl rfl rfl (by assumption)) ?_; clear E a; intro a E
                              refine zp E (by first | exact zBu E rfl rfl rfl | exact zAx E rfl rfl rfl | exact zAq E rfl rfl rfl) ?_; clear E a; intro a E
                              refine zp E (zCk E rfl rfl rfl) ?_; clear E a; intro a E
                              refine wpList_nil ?_
                              refine zAf hK ?_; clear hK; clear K
                              refine zBh E rfl (fun hb => ?_) (fun hb => ?_)
                              · replace hb := Nrm.nrm hb
                                refine wp_skip ?_
                                refine zAf hK ?_; clear hK; clear K
                                refine wp_seq_k ?_; intro K hK
                                refine wp_block ?_
                                refine wp_seq_k ?_; intro K hK
                                have hil : j < ra.keep.length := by omega
                                have hil2 : j < rb.keep.length := by omega
                                obtain ⟨q1, o1, rfl⟩ := ha.kr.addr (by omega)
                                obtain ⟨q2, o2, rfl⟩ := hq.kr.addr (by omega)
                                refine zCb S (.ofL [(0, 0), (1, 0), (2, 0), (3, 0), (4, 0), (5, 0), (6, 0), (7, 0), (8, 0), (9, 0), (10, 0)]) (by kernel_rfl) (by kernel_rfl) ?_
                                clear S; intro w S
                                refine zm E rfl (fun w h => by first | exact zAg (q := 11) E rfl rfl rfl | exact zAh (q := 11) E rfl rfl rfl) ?_; clear E a; intro a E
                                refine zm E rfl (fun w h => by first | exact zAn E rfl rfl rfl (h.one (by repeat (first | exact mm1 | assumption | apply List.Mem.tail))) rfl | exact zAj E rfl rfl rfl (by assumption)) ?_; clear E a; intro a E
                                refine zm E rfl (fun w h => zAe E rfl rfl) ?_; clear E a; intro a E
                                refine zm E rfl (fun w h => by first | exact zBo E rfl rfl rfl rfl rfl rfl (by omega) | exact zBq E rfl rfl rfl rfl rfl rfl (by omega) | exact zBd E rfl rfl rfl rfl rfl rfl (by omega)) ?_; clear E a; intro a E
                                refine zm E rfl (fun w h => zAj E rfl rfl rfl (ha.kr.cells (h.at (List.Mem.tail _ (List.Mem.tail _ ma))) rfl j _ (zFq hil))) ?_; clear E a; intro a E
                                refine zm E rfl (fun w h => by first | exact zAg (q := 11) E rfl rfl rfl | exact zAh (q := 11) E rfl rfl rfl) ?_; clear E a; intro a E
                                refine zm E rfl (fun w h => by first | exact zAn E rfl rfl rfl (h.one (by repeat (first | exact mm1 | assumption | apply List.Mem.tail))) rfl | exact zAj E rfl rfl rfl (by assumption)) ?_; clear E a; intro a E
                                refine zm E rfl (fun w h => zAe E rfl rfl) ?_; clear E a; intro a E
                                refine zm E rfl (fun w h => by first | exact zBo E rfl rfl rfl rfl rfl rfl (by omega) | exact zBq E rfl rfl rfl rfl rfl rfl (by omega) | exact zBd E rfl rfl rfl rfl rfl rfl (by omega)) ?_; clear E a; intro a E
                                refine zm E rfl (fun w h => zAj E rfl rfl rfl (hq.kr.cells (h.at (List.Mem.tail _ (List.Mem.tail _ mb))) rfl j _ (zFq hil2))) ?_; clear E a; intro a E
                                refine zm E rfl (fun w h => by first | exact zDa E rfl rfl rfl | exact zBi E rfl rfl rfl rfl | exact zBs E rfl rfl rfl rfl | exact zBl E rfl rfl rfl) ?_; clear E a; intro a E
                                refine zBz ?_
                                refine zAf hK ?_; clear hK; clear K
                                refine zBh E rfl (fun hb => ?_) (fun hb => ?_)
                                · replace hb := Nrm.nrm hb
                                  refine wp_seq_k ?_; intro K hK
                                  refine zAb ?_
                                  refine zp E (zAd E rfl rfl) ?_; clear E a; intro a E
                                  refine wpList_nil ?_
                                  refine zAf hK ?_; clear hK; clear K
                                  refine wp_ret ?_
                                  refine zCj ?_
                                  refine zAy ?_; clear hK; clear K
                                  refine zAy ?_
                                  refine zCj ?_
                                  refine zAy ?_; clear hK; clear K
                                  refine ret1 E rfl rfl ?_
                                  exact ⟨_, rfl, _, rfl, ⟨fun q => Bool.noConfusion q, by rintro rfl; exact absurd rfl hb⟩, S.tail2.tr⟩
                                · replace hb := Nrm.nrm hb
                                  refine wp_skip ?_
                                  refine zBe ?_
                                  refine zAf hK ?_; clear hK; clear K
                                  refine zAb ?_
                                  refine zp E (zAe E rfl rfl) ?_; clear E a; intro a E
                                  refine zp E (zBt E rfl rfl rfl (by first | exact zCh (y := 1) (by omega) | exact w_in (by omega) | exact zBw (by omega) | exact rfl)) ?_; clear E a; intro a E
                                  refine zp E (zAd E rfl rfl) ?_; clear E a; intro a E
                                  refine wpList_nil ?_
                                  refine zBj ?_
                                  exact ⟨_, by omega, j + 1, rfl, by omega, take_more hk hil hil2 hb, S, E.keep (zAa rfl (zAa rfl (zAa rfl (zAa rfl zAm))))⟩
                              · replace hb := Nrm.nrm hb
                                refine wp_exit ?_
                                refine zBa ?_; clear hK; clear K
                                refine zBa ?_
                                refine zCg ?_
                                refine zAf hK ?_; clear hK; clear K
                                refine wp_seq_k ?_; intro K hK
                                refine zAb ?_
                                refine zp E (zAd E rfl rfl) ?_; clear E a; intro a E
                                refine wpList_nil ?_
                                refine zAf hK ?_; clear hK; clear K
                                refine wp_ret ?_
                                refine ret1 E rfl rfl ?_
                                have e12' : ra.keep = rb.keep := by rw [List.take_of_length_le (by omega), List.take_of_length_le (by omega)] at hk; exact hk
                                refine ⟨_, rfl, _, rfl, ⟨fun _ => ?_, fun _ => rfl⟩, S.tail2.tr⟩
                                obtain ⟨A1, A2, A3, A4, A5, A6, A7, A8, A9, A10, A11, A12, A13⟩ := ra
                                obtain ⟨B1, B2, B3, B4, B5, B6, B7, B8, B9, B10, B11, B12, B13⟩ := rb
                                simp only at *
                                simp_all
end Go.Proofs.YtbogecljkaimdaaGreatDoor
namespace Go.Sl
structure RV where
  r : Rec
  pv : Value
  kv : Value
  dv : Value
def RV.lay (x : RV) : List Value := x.r.cells x.pv x.kv x.dv
theorem RV.lay_len (x : RV) : x.lay.length = 13 := rfl
def RVs (X : zAw) (l : List RV) : Prop := ∀ x ∈ l, RecR X x.r x.pv x.kv x.dv
abbrev fsC (s : Fs) : List Value := [.int .u64 s.a, .int .u64 s.b, .int .u64 s.c, .int .u64 s.d]
theorem RecR.sub {C D : zAw} {r : Rec} {pv kv dv : Value} (h : RecR C r pv kv dv) (hs : ∀ x ∈ C, x ∈ D) : RecR D r pv kv dv := ⟨h.pr.sub hs, h.kr.sub hs, h.dr.sub hs⟩
theorem RVs.sub {C D : zAw} {l : List RV} (h : RVs C l) (hs : ∀ x ∈ C, x ∈ D) : RVs D l := fun x hx => (h x hx).sub hs
end Go.Sl
namespace Go.Proofs.YtbogecljkaimdaaGreatDoor
open Go.Sl
set_option maxRecDepth 10000
theorem piece_le {r : Rec} (h : ckB r = true) (s : Fs) : (zDj r.kind (zEl r.kind r) s).length ≤ 2085 := by
  have := zKn (zKm h).1 (zKm h).2
  rw [zGn]; omega
end Go.Proofs.YtbogecljkaimdaaGreatDoor
namespace Go.Sl
theorem dotI (c : UInt8) : dotB c = (((c.toNat : Int) == 46) || ((c.toNat : Int) == 95) || ((c.toNat : Int) == 45)) := by
  rw [Bool.eq_iff_iff, dotB_iff]; simp; omega
def okB (c : UInt8) (i : Nat) : Bool := letB c || (!((i : Int) == 0) && dotB c)
theorem okB_at {l : List UInt8} {i : Nat} (h : i < l.length) : okB l[i] i = true ↔ okAt l i h := by
  simp [okB, okAt]
end Go.Sl
namespace Go.Proofs.YtbogecljkaimdaaGreatDoor
open Go.Sl
set_option maxRecDepth 10000
theorem zKq (l : List UInt8) (hl : l.length ≤ 140737488355328) (As : List zAw) (w0 : World) (H : Hp w0 As) :
    Ret Tryz.prog 78 #[str l] w0 fun u w' => u = .bool (zFj l) ∧ Trs w0 w' As As := by
  have S := St.begin H
  refine zCu 55 Tryz.func78 rfl rfl (by decide) ?_; intro a E
  refine wp_seq_k ?_; intro K hK
  refine zAb ?_
  refine zp E (zAd E rfl rfl) ?_; clear E a; intro a E
  refine wpList_nil ?_
  refine zAf hK ?_; clear hK; clear K
  iterate 2 (refine wp_seq_k ?_; intro K hK)
  refine zEc (fun (a : Act) (w' : World) => ∃ z, (z = true ↔ (l.length < 1 ∨ 24 < l.length)) ∧ St w0 As w' As ∧ Fr a 55 [(0, str l), (2, .bool false), (13, .bool z)]) ?_ ?_
  · skip
    refine zAb ?_
    refine zp E (zAe E rfl rfl) ?_; clear E a; intro a E
    refine zp E (by first | exact zBu E rfl rfl rfl | exact zAx E rfl rfl rfl | exact zAq E rfl rfl rfl) ?_; clear E a; intro a E
    refine zp E (zCk E rfl rfl rfl) ?_; clear E a; intro a E
    refine zp E (zAe E rfl rfl) ?_; clear E a; intro a E
    refine zAr E (t := 9) rfl (fun hb9 => ?_) (fun hb9 => ?_)
    · have hb9n := hb9; replace hb9n := Nrm.nrm hb9n
      iterate 3 (refine zn E hb9 ?_; clear E a; intro a E)
      refine zp E (zAk E rfl rfl hb9 rfl) ?_; clear E a; intro a E
      refine wpList_nil ?_
      refine zAv ?_
      exact ⟨_, ⟨fun q => by first | omega | (simp only [decide_eq_true_eq] at q; omega) | (simp at q; omega) | exact Bool.noConfusion q, fun q => by first | rfl | (simp only [decide_eq_true_eq]; omega) | (exfalso; omega) | (simp; omega)⟩, S, E.keep (zAa rfl (zAa rfl (zAa rfl zAm)))⟩
    · have hb9n := hb9; replace hb9n := Nrm.nrm hb9n
      refine zy E hb9 (zAe E rfl rfl) ?_; clear E a; intro a E
      refine zy E hb9 (by first | exact zBu E rfl rfl rfl | exact zAx E rfl rfl rfl | exact zAq E rfl rfl rfl) ?_; clear E a; intro a E
      refine zy E hb9 (zDt E rfl rfl rfl) ?_; clear E a; intro a E
      refine zp E (zAi E rfl rfl hb9 rfl) ?_; clear E a; intro a E
      refine wpList_nil ?_
      refine zAv ?_
      exact ⟨_, ⟨fun q => by first | omega | (simp only [decide_eq_true_eq] at q; omega) | (simp at q; omega) | exact Bool.noConfusion q, fun q => by first | rfl | (simp only [decide_eq_true_eq]; omega) | (exfalso; omega) | (simp; omega)⟩, S, E.keep (zAa rfl (zAa rfl (zAa rfl zAm)))⟩
  · clear E S a; intro a w J; obtain ⟨_, hz, S, E⟩ := J
    refine zAf hK ?_; clear hK; clear K
    refine zBh E rfl (fun hb => ?_) (fun hb => ?_)
    · replace hb := Nrm.nrm hb
      have hb := hz.1 hb
      refine wp_seq_k ?_; intro K hK
      refine zAb ?_
      refine zp E (zAd E rfl rfl) ?_; clear E a; intro a E
      refine wpList_nil ?_
      refine zAf hK ?_; clear hK; clear K
      refine wp_ret ?_
      refine zAy ?_; clear hK; clear K
      refine ret1 E rfl rfl ?_
      exact ⟨_, rfl, by rw [partB_no]; intro h; have := h.1; have := h.2.1; omega, S.tr⟩
    · replace hb := Nrm.nrm hb
      have hb : ¬ (l.length < 1 ∨ 24 < l.length) := fun q => by rw [hz.2 q] at hb; cases hb
      refine wp_skip ?_
      refine zAf hK ?_; clear hK; clear K
      iterate 2 (refine wp_seq_k ?_; intro K hK)
      refine zAb ?_
      refine zp E (zAd E rfl rfl) ?_; clear E a; intro a E
      refine wpList_nil ?_
      refine zAf hK ?_; clear hK; clear K
      refine wp_block ?_
      refine wp_loop_ghost (fun (m : Nat) (a : Act) (w' : World) => ∃ i : Nat, m = l.length - i ∧ i ≤ l.length ∧ (∀ k, ∀ hk : k < l.length, k < i → okAt l k hk) ∧ St w0 As w' As ∧ Fr a 55 [(0, str l), (2, .bool false), (3, .int .i64 i)]) (l.length) ?_ ?_
      · exact ⟨0, by omega, by omega, by intro k _ h; omega, S, E.keep (zAa rfl (zAa rfl (zAa rfl zAm)))⟩
      clear E; clear a; (try clear S); rintro m a w ⟨i, rfl, hi, hok, S, E⟩
      iterate 2 (refine wp_seq_k ?_; intro K hK)
      refine zAb ?_
      iterate 2 (refine zp E (zAe E rfl rfl) ?_; clear E a; intro a E)
      refine zp E (by first | exact zBu E rfl rfl rfl | exact zAx E rfl rfl rfl | exact zAq E rfl rfl rfl) ?_; clear E a; intro a E
      refine zp E (zCk E rfl rfl rfl) ?_; clear E a; intro a E
      refine wpList_nil ?_
      refine zAf hK ?_; clear hK; clear K
      refine zBh E rfl (fun hb => ?_) (fun hb => ?_)
      · replace hb := Nrm.nrm hb
        refine wp_skip ?_
        refine zAf hK ?_; clear hK; clear K
        refine wp_seq_k ?_; intro K hK
        refine wp_block ?_
        refine wp_seq_k ?_; intro K hK
        have hil : i < l.length := by omega
        refine zAb ?_
        iterate 2 (refine zp E (zAe E rfl rfl) ?_; clear E a; intro a E)
        refine zp E (by first | exact zEg E rfl rfl rfl rfl rfl (by assumption) | exact zCz E rfl rfl rfl rfl rfl (by omega)) ?_; clear E a; intro a E
        refine zp E (zAd E rfl rfl) ?_; clear E a; intro a E
        refine wpList_nil ?_
        refine zAf hK ?_; clear hK; clear K
        refine wp_seq_k ?_; intro K hK
        obtain ⟨c, hc⟩ : ∃ c, c = l[i] := ⟨_, rfl⟩
        rw [← hc] at E
        refine zEc (fun (a : Act) (w' : World) => ∃ z, (z = true ↔ ((97 ≤ c.toNat ∧ c.toNat ≤ 122) ∨ (48 ≤ c.toNat ∧ c.toNat ≤ 57))) ∧ St w0 As w' As ∧ Fr a 55 [(0, str l), (2, .bool false), (3, .int .i64 i), (4, .int .u8 c.toNat), (5, .bool z)]) ?_ ?_
        · skip
          refine zAb ?_
          refine zp E (zAe E rfl rfl) ?_; clear E a; intro a E
          refine zp E (zDy E rfl rfl rfl) ?_; clear E a; intro a E
          refine zp E (zAe E rfl rfl) ?_; clear E a; intro a E
          refine zAr E (t := 25) rfl (fun hb25 => ?_) (fun hb25 => ?_)
          · have hb25n := hb25; replace hb25n := Nrm.nrm hb25n
            refine zy E hb25 (zAe E rfl rfl) ?_; clear E a; intro a E
            refine zy E hb25 (zDx E rfl rfl rfl) ?_; clear E a; intro a E
            refine zp E (zAk E rfl rfl hb25 rfl) ?_; clear E a; intro a E
            refine zp E (zAe E rfl rfl) ?_; clear E a; intro a E
            refine zAr E (t := 29) rfl (fun hb29 => ?_) (fun hb29 => ?_)
            · have hb29n := hb29; replace hb29n := Nrm.nrm hb29n
              iterate 3 (refine zn E hb29 ?_; clear E a; intro a E)
              iterate 2 (refine zu E ?_; clear E a; intro a E)
              refine zn E hb29 ?_; clear E a; intro a E
              refine zp E (zAk E rfl rfl hb29 rfl) ?_; clear E a; intro a E
              refine zp E (zAd E rfl rfl) ?_; clear E a; intro a E
              refine wpList_nil ?_
              refine zAv ?_
              exact ⟨_, ⟨fun q => by first | omega | (simp only [decide_eq_true_eq] at q; omega) | (simp at q; omega) | exact Bool.noConfusion q, fun q => by first | rfl | (simp only [decide_eq_true_eq]; omega) | (exfalso; omega) | (simp; omega)⟩, S, E.keep (zAa rfl (zAa rfl (zAa rfl (zAa rfl (zAa rfl zAm)))))⟩
            · have hb29n := hb29; replace hb29n := Nrm.nrm hb29n
              refine zy E hb29 (zAe E rfl rfl) ?_; clear E a; intro a E
              refine zy E hb29 (zDy E rfl rfl rfl) ?_; clear E a; intro a E
              refine zy E hb29 (zAe E rfl rfl) ?_; clear E a; intro a E
              refine zAr E (t := 32) rfl (fun hb32 => ?_) (fun hb32 => ?_)
              · have hb32n := hb32; replace hb32n := Nrm.nrm hb32n
                refine zy E hb32 (zAe E rfl rfl) ?_; clear E a; intro a E
                refine zy E hb32 (zDx E rfl rfl rfl) ?_; clear E a; intro a E
                refine zy E hb29 (zAk E rfl rfl hb32 rfl) ?_; clear E a; intro a E
                refine zp E (zAi E rfl rfl hb29 rfl) ?_; clear E a; intro a E
                refine zp E (zAd E rfl rfl) ?_; clear E a; intro a E
                refine wpList_nil ?_
                refine zAv ?_
                exact ⟨_, ⟨fun q => by first | omega | (simp only [decide_eq_true_eq] at q; omega) | (simp at q; omega) | exact Bool.noConfusion q, fun q => by first | rfl | (simp only [decide_eq_true_eq]; omega) | (exfalso; omega) | (simp; omega)⟩, S, E.keep (zAa rfl (zAa rfl (zAa rfl (zAa rfl (zAa rfl zAm)))))⟩
              · have hb32n := hb32; replace hb32n := Nrm.nrm hb32n
                iterate 2 (refine zn E hb32 ?_; clear E a; intro a E)
                refine zy E hb29 (zAi E rfl rfl hb32 rfl) ?_; clear E a; intro a E
                refine zp E (zAi E rfl rfl hb29 rfl) ?_; clear E a; intro a E
                refine zp E (zAd E rfl rfl) ?_; clear E a; intro a E
                refine wpList_nil ?_
                refine zAv ?_
                exact ⟨_, ⟨fun q => by first | omega | (simp only [decide_eq_true_eq] at q; omega) | (simp at q; omega) | exact Bool.noConfusion q, fun q => by first | rfl | (simp only [decide_eq_true_eq]; omega) | (exfalso; omega) | (simp; omega)⟩, S, E.keep (zAa rfl (zAa rfl (zAa rfl (zAa rfl (zAa rfl zAm)))))⟩
          · have hb25n := hb25; replace hb25n := Nrm.nrm hb25n
            iterate 2 (refine zn E hb25 ?_; clear E a; intro a E)
            refine zp E (zAi E rfl rfl hb25 rfl) ?_; clear E a; intro a E
            refine zp E (zAe E rfl rfl) ?_; clear E a; intro a E
            refine zy E rfl (zAe E rfl rfl) ?_; clear E a; intro a E
            refine zy E rfl (zDy E rfl rfl rfl) ?_; clear E a; intro a E
            refine zy E rfl (zAe E rfl rfl) ?_; clear E a; intro a E
            refine zAr E (t := 32) rfl (fun hb32 => ?_) (fun hb32 => ?_)
            · have hb32n := hb32; replace hb32n := Nrm.nrm hb32n
              refine zy E hb32 (zAe E rfl rfl) ?_; clear E a; intro a E
              refine zy E hb32 (zDx E rfl rfl rfl) ?_; clear E a; intro a E
              refine zy E rfl (zAk E rfl rfl hb32 rfl) ?_; clear E a; intro a E
              refine zp E (zAi E rfl rfl rfl rfl) ?_; clear E a; intro a E
              refine zp E (zAd E rfl rfl) ?_; clear E a; intro a E
              refine wpList_nil ?_
              refine zAv ?_
              exact ⟨_, ⟨fun q => by first | omega | (simp only [decide_eq_true_eq] at q; omega) | (simp at q; omega) | exact Bool.noConfusion q, fun q => by first | rfl | (simp only [decide_eq_true_eq]; omega) | (exfalso; omega) | (simp; omega)⟩, S, E.keep (zAa rfl (zAa rfl (zAa rfl (zAa rfl (zAa rfl zAm)))))⟩
            · have hb32n := hb32; replace hb32n := Nrm.nrm hb32n
              iterate 2 (refine zn E hb32 ?_; clear E a; intro a E)
              refine zy E rfl (zAi E rfl rfl hb32 rfl) ?_; clear E a; intro a E
              refine zp E (zAi E rfl rfl rfl rfl) ?_; clear E a; intro a E
              refine zp E (zAd E rfl rfl) ?_; clear E a; intro a E
              refine wpList_nil ?_
              refine zAv ?_
              exact ⟨_, ⟨fun q => by first | omega | (simp only [decide_eq_true_eq] at q; omega) | (simp at q; omega) | exact Bool.noConfusion q, fun q => by first | rfl | (simp only [decide_eq_true_eq]; omega) | (exfalso; omega) | (simp; omega)⟩, S, E.keep (zAa rfl (zAa rfl (zAa rfl (zAa rfl (zAa rfl zAm)))))⟩
        · clear E S a; intro a w J; obtain ⟨z, hz, S, E⟩ := J
          obtain rfl : z = letB c := by rw [Bool.eq_iff_iff, zHg]; exact hz
          refine zAf hK ?_; clear hK; clear K
          refine wp_seq_k ?_; intro K hK
          refine zEc (fun (a : Act) (w' : World) => ∃ z, z = !okB c i ∧ St w0 As w' As ∧ Fr a 55 [(0, str l), (2, .bool false), (3, .int .i64 i), (54, .bool z)]) ?_ ?_
          · skip
            refine zAb ?_
            refine zp E (zAe E rfl rfl) ?_; clear E a; intro a E
            refine zp E (zDe E rfl rfl) ?_; clear E a; intro a E
            refine zp E (zAe E rfl rfl) ?_; clear E a; intro a E
            refine zAr E (t := 39) rfl (fun hb39 => ?_) (fun hb39 => ?_)
            · have hb39n := hb39; replace hb39n := Nrm.nrm hb39n
              refine zy E hb39 (zAe E rfl rfl) ?_; clear E a; intro a E
              refine zy E hb39 (by first | exact zCc E rfl rfl rfl | exact zAs E rfl rfl rfl rfl | exact zBb E rfl rfl rfl rfl | exact zAt E rfl rfl rfl) ?_; clear E a; intro a E
              refine zy E hb39 (zAe E rfl rfl) ?_; clear E a; intro a E
              refine zAr E (t := 42) rfl (fun hb42 => ?_) (fun hb42 => ?_)
              · have hb42n := hb42; replace hb42n := Nrm.nrm hb42n
                iterate 3 (refine zn E hb42 ?_; clear E a; intro a E)
                iterate 2 (refine zu E ?_; clear E a; intro a E)
                iterate 2 (refine zn E hb42 ?_; clear E a; intro a E)
                iterate 2 (refine zu E ?_; clear E a; intro a E)
                refine zn E hb42 ?_; clear E a; intro a E
                refine zy E hb39 (zAk E rfl rfl hb42 rfl) ?_; clear E a; intro a E
                refine zp E (zAk E rfl rfl hb39 rfl) ?_; clear E a; intro a E
                refine wpList_nil ?_
                refine zAv ?_
                exact ⟨_, by unfold okB; rw [dotI]; clear E S hz; simp_all <;> (rw [Bool.eq_iff_iff]; simp; omega), S, E.keep (zAa rfl (zAa rfl (zAa rfl (zAa rfl zAm))))⟩
              · have hb42n := hb42; replace hb42n := Nrm.nrm hb42n
                refine zy E hb42 (zAe E rfl rfl) ?_; clear E a; intro a E
                refine zy E hb42 (by first | exact zDa E rfl rfl rfl | exact zBi E rfl rfl rfl rfl | exact zBs E rfl rfl rfl rfl | exact zBl E rfl rfl rfl) ?_; clear E a; intro a E
                refine zy E hb42 (zAe E rfl rfl) ?_; clear E a; intro a E
                refine zAr E (t := 45) rfl (fun hb45 => ?_) (fun hb45 => ?_)
                · have hb45n := hb45; replace hb45n := Nrm.nrm hb45n
                  refine zy E hb45 (zAe E rfl rfl) ?_; clear E a; intro a E
                  refine zy E hb45 (by first | exact zDa E rfl rfl rfl | exact zBi E rfl rfl rfl rfl | exact zBs E rfl rfl rfl rfl | exact zBl E rfl rfl rfl) ?_; clear E a; intro a E
                  refine zy E hb42 (zAk E rfl rfl hb45 rfl) ?_; clear E a; intro a E
                  refine zy E hb42 (zAe E rfl rfl) ?_; clear E a; intro a E
                  refine zAr E (t := 49) rfl (fun hb49 => ?_) (fun hb49 => ?_)
                  · have hb49n := hb49; replace hb49n := Nrm.nrm hb49n
                    refine zy E hb49 (zAe E rfl rfl) ?_; clear E a; intro a E
                    refine zy E hb49 (by first | exact zDa E rfl rfl rfl | exact zBi E rfl rfl rfl rfl | exact zBs E rfl rfl rfl rfl | exact zBl E rfl rfl rfl) ?_; clear E a; intro a E
                    refine zy E hb42 (zAk E rfl rfl hb49 rfl) ?_; clear E a; intro a E
                    refine zy E hb39 (zAi E rfl rfl hb42 rfl) ?_; clear E a; intro a E
                    refine zp E (zAk E rfl rfl hb39 rfl) ?_; clear E a; intro a E
                    refine wpList_nil ?_
                    refine zAv ?_
                    exact ⟨_, by unfold okB; rw [dotI]; clear E S hz; simp_all <;> (rw [Bool.eq_iff_iff]; simp; omega), S, E.keep (zAa rfl (zAa rfl (zAa rfl (zAa rfl zAm))))⟩
                  · have hb49n := hb49; replace hb49n := Nrm.nrm hb49n
                    iterate 2 (refine zn E hb49 ?_; clear E a; intro a E)
                    refine zy E hb42 (zAi E rfl rfl hb49 rfl) ?_; clear E a; intro a E
                    refine zy E hb39 (zAi E rfl rfl hb42 rfl) ?_; clear E a; intro a E
                    refine zp E (zAk E rfl rfl hb39 rfl) ?_; clear E a; intro a E
                    refine wpList_nil ?_
                    refine zAv ?_
                    exact ⟨_, by unfold okB; rw [dotI]; clear E S hz; simp_all <;> (rw [Bool.eq_iff_iff]; simp; omega), S, E.keep (zAa rfl (zAa rfl (zAa rfl (zAa rfl zAm))))⟩
                · have hb45n := hb45; replace hb45n := Nrm.nrm hb45n
                  iterate 2 (refine zn E hb45 ?_; clear E a; intro a E)
                  refine zy E hb42 (zAi E rfl rfl hb45 rfl) ?_; clear E a; intro a E
                  refine zy E hb42 (zAe E rfl rfl) ?_; clear E a; intro a E
                  iterate 2 (refine zn E rfl ?_; clear E a; intro a E)
                  refine zy E hb42 (zAi E rfl rfl rfl rfl) ?_; clear E a; intro a E
                  refine zy E hb39 (zAi E rfl rfl hb42 rfl) ?_; clear E a; intro a E
                  refine zp E (zAk E rfl rfl hb39 rfl) ?_; clear E a; intro a E
                  refine wpList_nil ?_
                  refine zAv ?_
                  exact ⟨_, by unfold okB; rw [dotI]; clear E S hz; simp_all <;> (rw [Bool.eq_iff_iff]; simp; omega), S, E.keep (zAa rfl (zAa rfl (zAa rfl (zAa rfl zAm))))⟩
            · have hb39n := hb39; replace hb39n := Nrm.nrm hb39n
              iterate 3 (refine zn E hb39 ?_; clear E a; intro a E)
              iterate 10 (refine zu E ?_; clear E a; intro a E)
              refine zn E hb39 ?_; clear E a; intro a E
              refine zp E (zAi E rfl rfl hb39 rfl) ?_; clear E a; intro a E
              refine wpList_nil ?_
              refine zAv ?_
              exact ⟨_, by unfold okB; rw [dotI]; clear E S hz; simp_all <;> (rw [Bool.eq_iff_iff]; simp; omega), S, E.keep (zAa rfl (zAa rfl (zAa rfl (zAa rfl zAm))))⟩
          · clear E S a; intro a w J; obtain ⟨_, rfl, S, E⟩ := J
            refine zAf hK ?_; clear hK; clear K
            refine zBh E rfl (fun hb => ?_) (fun hb => ?_)
            · replace hb := Nrm.nrm hb
              refine wp_seq_k ?_; intro K hK
              refine zAb ?_
              refine zp E (zAd E rfl rfl) ?_; clear E a; intro a E
              refine wpList_nil ?_
              refine zAf hK ?_; clear hK; clear K
              refine wp_ret ?_
              refine zCj ?_
              refine zAy ?_; clear hK; clear K
              refine zAy ?_
              refine zCj ?_
              refine zAy ?_; clear hK; clear K
              refine ret1 E rfl rfl ?_
              exact ⟨_, rfl, by rw [partB_no]; intro h; have := (okB_at hil).2 (h.2.2 i hil); rw [← hc] at this; simp [this] at hb, S.tr⟩
            · replace hb := Nrm.nrm hb
              refine wp_skip ?_
              refine zBe ?_
              refine zAf hK ?_; clear hK; clear K
              refine zAb ?_
              refine zp E (zAe E rfl rfl) ?_; clear E a; intro a E
              refine zp E (zBt E rfl rfl rfl (by first | exact zCh (y := 1) (by omega) | exact w_in (by omega) | exact zBw (by omega) | exact rfl)) ?_; clear E a; intro a E
              refine zp E (zAd E rfl rfl) ?_; clear E a; intro a E
              refine wpList_nil ?_
              refine zBj ?_
              exact ⟨_, by omega, i + 1, rfl, by omega, ok_more hok hil ((okB_at hil).1 (by rw [← hc]; simpa using hb)), S, E.keep (zAa rfl (zAa rfl (zAa rfl zAm)))⟩
      · replace hb := Nrm.nrm hb
        refine wp_exit ?_
        refine zBa ?_; clear hK; clear K
        refine zBa ?_
        refine zCg ?_
        refine zAf hK ?_; clear hK; clear K
        refine wp_seq_k ?_; intro K hK
        refine zAb ?_
        refine zp E (zAd E rfl rfl) ?_; clear E a; intro a E
        refine wpList_nil ?_
        refine zAf hK ?_; clear hK; clear K
        refine wp_ret ?_
        refine ret1 E rfl rfl ?_
        exact ⟨_, rfl, by rw [(part_end (l := l) fun k hk => hok k hk (by omega)).2 (by omega)], S.tr⟩
theorem zKr (l : List UInt8) (hl : l.length ≤ 140737488355328) (As : List zAw) (w0 : World) (H : Hp w0 As) :
    Ret Tryz.prog 34 #[str l] w0 fun u w' => u = .bool (zFj l) ∧ Trs w0 w' As As := by
  have S := St.begin H
  refine zCu 5 Tryz.func34 rfl rfl (by decide) ?_; intro a E
  refine wp_seq_k ?_; intro K hK
  refine zAb ?_
  refine zp E (zAd E rfl rfl) ?_; clear E a; intro a E
  refine wpList_nil ?_
  refine zAf hK ?_; clear hK; clear K
  refine wp_seq_k ?_; intro K hK
  refine zAb ?_
  refine zp E (zAe E rfl rfl) ?_; clear E a; intro a E
  refine zAp E rfl rfl (by decide) rfl Tryz.func78 rfl (by kernel_rfl) rfl (zKq l hl _ _ S.hp) ?_
  rintro v4 w ⟨rfl, hT⟩; clear E a; intro a E
  have S := S.all hT
  refine zp E (zAd E rfl rfl) ?_; clear E a; intro a E
  refine wpList_nil ?_
  refine zAf hK ?_; clear hK; clear K
  refine wp_ret ?_
  refine ret1 E rfl rfl ?_
  exact ⟨_, rfl, rfl, S.tr⟩
theorem uName_ret (l : List UInt8) (hl : l.length ≤ 140737488355328) (As : List zAw) (w0 : World) (H : Hp w0 As) :
    Ret Tryz.prog 79 #[str l] w0 fun u w' => u = .bool (nameB l) ∧ Trs w0 w' As As := by
  have S := St.begin H
  have hno : ∀ {z : Bool}, (z = true ↔ nameP l) → z = nameB l := fun h => by rw [Bool.eq_iff_iff, zGw]; exact h
  refine zCu 39 Tryz.func79 rfl rfl (by decide) ?_; intro a E
  refine wp_seq_k ?_; intro K hK
  refine zAb ?_
  refine zp E (zAd E rfl rfl) ?_; clear E a; intro a E
  refine wpList_nil ?_
  refine zAf hK ?_; clear hK; clear K
  iterate 2 (refine wp_seq_k ?_; intro K hK)
  refine zAb ?_
  refine zp E (zAe E rfl rfl) ?_; clear E a; intro a E
  refine zp E (by first | exact zBu E rfl rfl rfl | exact zAx E rfl rfl rfl | exact zAq E rfl rfl rfl) ?_; clear E a; intro a E
  refine zp E (zDt E rfl rfl rfl) ?_; clear E a; intro a E
  refine wpList_nil ?_
  refine zAf hK ?_; clear hK; clear K
  refine zBh E rfl (fun hb => ?_) (fun hb => ?_)
  · replace hb := Nrm.nrm hb
    refine wp_seq_k ?_; intro K hK
    refine zAb ?_
    refine zp E (zAd E rfl rfl) ?_; clear E a; intro a E
    refine wpList_nil ?_
    refine zAf hK ?_; clear hK; clear K
    refine wp_ret ?_
    refine zAy ?_; clear hK; clear K
    refine ret1 E rfl rfl ?_
    exact ⟨_, rfl, by rw [← hno (z := false) ⟨fun q => Bool.noConfusion q, fun q => by have := q.1; omega⟩], S.tr⟩
  · replace hb := Nrm.nrm hb
    refine wp_skip ?_
    refine zAf hK ?_; clear hK; clear K
    refine wp_seq_k ?_; intro K hK
    refine zAb ?_
    refine zp E (zAd E rfl rfl) ?_; clear E a; intro a E
    refine wpList_nil ?_
    refine zAf hK ?_; clear hK; clear K
    refine wp_seq_k ?_; intro K hK
    refine zAb ?_
    refine zp E (zAd E rfl rfl) ?_; clear E a; intro a E
    refine wpList_nil ?_
    refine zAf hK ?_; clear hK; clear K
    iterate 2 (refine wp_seq_k ?_; intro K hK)
    refine zAb ?_
    refine zp E (zAd E rfl rfl) ?_; clear E a; intro a E
    refine wpList_nil ?_
    refine zAf hK ?_; clear hK; clear K
    refine wp_block ?_
    refine wp_loop_ghost (fun (m : Nat) (a : Act) (w' : World) => ∃ (i f : Nat) (cl : List (List UInt8)), m = l.length - i ∧ i ≤ l.length ∧ f ≤ i ∧ zDb l = cl ++ zDb (l.drop f) ∧ (∀ p ∈ cl, zFj p = true) ∧ ((l.drop f).take (i - f)).count 47 = 0 ∧ cl.length ≤ f ∧ St w0 As w' As ∧ Fr a 39 [(0, str l), (2, .bool false), (3, .int .i64 (cl.length + 1 : Nat)), (4, .int .i64 f), (5, .int .i64 i)]) (l.length) ?_ ?_
    · exact ⟨0, 0, [], by omega, by omega, by omega, rfl, by simp, by simp, by simp, S, E.keep (zAa rfl (zAa rfl (zAa rfl (zAa rfl (zAa rfl zAm)))))⟩
    clear E; clear a; (try clear S); rintro m a w ⟨i, f, cl, rfl, hi, hfi, hp, hcl, hc0, hclf, S, E⟩
    iterate 2 (refine wp_seq_k ?_; intro K hK)
    refine zAb ?_
    iterate 2 (refine zp E (zAe E rfl rfl) ?_; clear E a; intro a E)
    refine zp E (by first | exact zBu E rfl rfl rfl | exact zAx E rfl rfl rfl | exact zAq E rfl rfl rfl) ?_; clear E a; intro a E
    refine zp E (zCk E rfl rfl rfl) ?_; clear E a; intro a E
    refine wpList_nil ?_
    refine zAf hK ?_; clear hK; clear K
    refine zBh E rfl (fun hb => ?_) (fun hb => ?_)
    · replace hb := Nrm.nrm hb
      refine wp_skip ?_
      refine zAf hK ?_; clear hK; clear K
      refine wp_seq_k ?_; intro K hK
      refine wp_block ?_
      refine wp_seq_k ?_; intro K hK
      have hil : i < l.length := by omega
      have hgi : (l.drop f)[i - f]'(by rw [List.length_drop]; omega) = l[i] := by rw [List.getElem_drop]; congr 1; omega
      refine zAb ?_
      iterate 2 (refine zp E (zAe E rfl rfl) ?_; clear E a; intro a E)
      refine zp E (by first | exact zEg E rfl rfl rfl rfl rfl (by assumption) | exact zCz E rfl rfl rfl rfl rfl (by omega)) ?_; clear E a; intro a E
      refine zp E (by first | exact zCc E rfl rfl rfl | exact zAs E rfl rfl rfl rfl | exact zBb E rfl rfl rfl rfl | exact zAt E rfl rfl rfl) ?_; clear E a; intro a E
      refine wpList_nil ?_
      refine zAf hK ?_; clear hK; clear K
      refine zBh E rfl (fun hb => ?_) (fun hb => ?_)
      · replace hb := Nrm.nrm hb
        refine wp_seq_k ?_; intro K hK
        have hc47 : l[i] = 47 := UInt8.toNat_inj.1 (by show l[i].toNat = 47; omega)
        have hcut := zIp (l := l.drop f) (m := i - f) (by rw [List.length_drop]; omega) (by rw [hgi]; exact hc47) hc0
        rw [List.drop_drop, show f + (i - f + 1) = i + 1 by omega] at hcut
        refine zAb ?_
        iterate 3 (refine zp E (zAe E rfl rfl) ?_; clear E a; intro a E)
        refine zp E (rn_str_lh (lo := f) (hi := i) E rfl rfl rfl rfl rfl rfl rfl (by omega) (by omega)) ?_; clear E a; intro a E
        refine zAp E rfl rfl (by decide) rfl Tryz.func78 rfl (by kernel_rfl) rfl (zKq ((l.drop f).take (i - f)) (by rw [List.length_take, List.length_drop]; omega) _ _ S.hp) ?_
        rintro v24 w ⟨rfl, hT⟩; clear E a; intro a E
        have S := S.all hT
        refine zp E (zAd E rfl rfl) ?_; clear E a; intro a E
        refine wpList_nil ?_
        refine zAf hK ?_; clear hK; clear K
        iterate 2 (refine wp_seq_k ?_; intro K hK)
        refine zAb ?_
        refine zp E (zAe E rfl rfl) ?_; clear E a; intro a E
        refine zp E (zDe E rfl rfl) ?_; clear E a; intro a E
        refine wpList_nil ?_
        refine zAf hK ?_; clear hK; clear K
        refine zBh E rfl (fun hb => ?_) (fun hb => ?_)
        · replace hb := Nrm.nrm hb
          have hb10 := hb
          refine wp_seq_k ?_; intro K hK
          refine zAb ?_
          refine zp E (zAd E rfl rfl) ?_; clear E a; intro a E
          refine wpList_nil ?_
          refine zAf hK ?_; clear hK; clear K
          refine wp_ret ?_
          refine zAy ?_; clear hK; clear K
          refine zCj ?_
          refine zAy ?_; clear hK; clear K
          refine zAy ?_
          refine zCj ?_
          refine zAy ?_; clear hK; clear K
          refine ret1 E rfl rfl ?_
          exact ⟨_, rfl, by rw [← hno (z := false) ⟨fun q => Bool.noConfusion q, fun q => by have := q.2.2 ((l.drop f).take (i - f)) (by rw [hp, hcut]; simp); simp [this] at hb10⟩], S.tr⟩
        · replace hb := Nrm.nrm hb
          have hb10 := hb
          refine wp_skip ?_
          refine zAf hK ?_; clear hK; clear K
          refine wp_seq_k ?_; intro K hK
          refine zAb ?_
          refine zp E (zAe E rfl rfl) ?_; clear E a; intro a E
          refine zp E (zBt E rfl rfl rfl (by first | exact zCh (y := 1) (by omega) | exact w_in (by omega) | exact zBw (by omega) | exact rfl)) ?_; clear E a; intro a E
          refine zp E (zAd E rfl rfl) ?_; clear E a; intro a E
          refine wpList_nil ?_
          refine zAf hK ?_; clear hK; clear K
          refine zAb ?_
          refine zp E (zAe E rfl rfl) ?_; clear E a; intro a E
          refine zp E (zBt E rfl rfl rfl (by first | exact zCh (y := 1) (by omega) | exact w_in (by omega) | exact zBw (by omega) | exact rfl)) ?_; clear E a; intro a E
          refine zp E (zAd E rfl rfl) ?_; clear E a; intro a E
          refine wpList_nil ?_
          refine zBe ?_
          refine zAf hK ?_; clear hK; clear K
          refine zAb ?_
          refine zp E (zAe E rfl rfl) ?_; clear E a; intro a E
          refine zp E (zBt E rfl rfl rfl (by first | exact zCh (y := 1) (by omega) | exact w_in (by omega) | exact zBw (by omega) | exact rfl)) ?_; clear E a; intro a E
          refine zp E (zAd E rfl rfl) ?_; clear E a; intro a E
          refine wpList_nil ?_
          refine zBj ?_
          first
            | exact ⟨_, by omega, i + 1, i + 1, cl ++ [(l.drop f).take (i - f)], rfl, by omega, by omega, by rw [hp, hcut]; simp, (fun p hp => by rcases List.mem_append.1 hp with q | q; exact hcl p q; rw [List.mem_singleton.1 q]; simpa using hb10), by simp, by simp; omega, S, by rw [List.length_append]; exact E.keep (zAa rfl (zAa rfl (zAa rfl (zAa rfl (zAa rfl zAm)))))⟩
            | exact ⟨_, by omega, i + 1, f, cl, rfl, by omega, by omega, hp, hcl, by
                rw [show i + 1 - f = i - f + 1 by omega, ← List.take_append_getElem (by rw [List.length_drop]; omega), List.count_append, hc0, hgi, List.count_singleton]
                have : l[i] ≠ 47 := fun q => hb (by rw [q]; rfl)
                simp [this], hclf, S, E.keep (zAa rfl (zAa rfl (zAa rfl (zAa rfl (zAa rfl zAm)))))⟩
      · replace hb := Nrm.nrm hb
        refine wp_skip ?_
        refine zBe ?_
        refine zAf hK ?_; clear hK; clear K
        refine zAb ?_
        refine zp E (zAe E rfl rfl) ?_; clear E a; intro a E
        refine zp E (zBt E rfl rfl rfl (by first | exact zCh (y := 1) (by omega) | exact w_in (by omega) | exact zBw (by omega) | exact rfl)) ?_; clear E a; intro a E
        refine zp E (zAd E rfl rfl) ?_; clear E a; intro a E
        refine wpList_nil ?_
        refine zBj ?_
        first
          | exact ⟨_, by omega, i + 1, i + 1, cl ++ [(l.drop f).take (i - f)], rfl, by omega, by omega, by rw [hp, hcut]; simp, (fun p hp => by rcases List.mem_append.1 hp with q | q; exact hcl p q; rw [List.mem_singleton.1 q]; simpa using hb10), by simp, by simp; omega, S, by rw [List.length_append]; exact E.keep (zAa rfl (zAa rfl (zAa rfl (zAa rfl (zAa rfl zAm)))))⟩
          | exact ⟨_, by omega, i + 1, f, cl, rfl, by omega, by omega, hp, hcl, by
              rw [show i + 1 - f = i - f + 1 by omega, ← List.take_append_getElem (by rw [List.length_drop]; omega), List.count_append, hc0, hgi, List.count_singleton]
              have : l[i] ≠ 47 := fun q => hb (by rw [q]; rfl)
              simp [this], hclf, S, E.keep (zAa rfl (zAa rfl (zAa rfl (zAa rfl (zAa rfl zAm)))))⟩
    · replace hb := Nrm.nrm hb
      refine wp_exit ?_
      refine zBa ?_; clear hK; clear K
      refine zBa ?_
      refine zCg ?_
      refine zAf hK ?_; clear hK; clear K
      refine wp_seq_k ?_; intro K hK
      obtain rfl : i = l.length := by omega
      have hlast : zDb (l.drop f) = [l.drop f] := zKb (by rw [List.take_of_length_le (by rw [List.length_drop]; omega)] at hc0; exact hc0)
      rw [hlast] at hp
      have hpl : (zDb l).length = cl.length + 1 := by rw [hp]; simp
      refine zAb ?_
      refine zp E (zAe E rfl rfl) ?_; clear E a; intro a E
      refine zp E (zDx E rfl rfl rfl) ?_; clear E a; intro a E
      refine zp E (zAe E rfl rfl) ?_; clear E a; intro a E
      refine zAr E (t := 33) rfl (fun hb33 => ?_) (fun hb33 => ?_)
      · have hb33n := hb33; replace hb33n := Nrm.nrm hb33n
        iterate 2 (refine zy E hb33 (zAe E rfl rfl) ?_; clear E a; intro a E)
        refine zy E hb33 (rn_str_l E rfl rfl rfl rfl rfl (by omega)) ?_; clear E a; intro a E
        refine zBx E rfl rfl rfl rfl hb33 ?_; refine zCo E rfl (by decide) rfl Tryz.func78 rfl (by kernel_rfl) rfl (zKq (l.drop f) (by rw [List.length_drop]; omega) _ _ S.hp) ?_
        rintro v37 w ⟨rfl, hT⟩; clear E a; intro a E
        have S := S.all hT
        refine zp E (zAk E rfl rfl hb33 rfl) ?_; clear E a; intro a E
        refine zp E (zAd E rfl rfl) ?_; clear E a; intro a E
        refine wpList_nil ?_
        refine zAf hK ?_; clear hK; clear K
        refine wp_ret ?_
        refine ret1 E rfl rfl ?_
        refine ⟨_, rfl, ?_, S.tr⟩
        congr 1
        refine hno ⟨fun q => ?_, fun q => ?_⟩
        · first
            | exact Bool.noConfusion q
            | exact ⟨by omega, by omega, fun p hp' => by rw [hp] at hp'; rcases List.mem_append.1 hp' with q' | q'; exact hcl p q'; rw [List.mem_singleton.1 q']; exact q⟩
        · have h2 := q.2.1
          first
            | exact q.2.2 _ (by rw [hp]; simp)
            | (exfalso; omega)
      · have hb33n := hb33; replace hb33n := Nrm.nrm hb33n
        iterate 4 (refine zn E hb33 ?_; clear E a; intro a E)
        refine zp E (zAi E rfl rfl hb33 rfl) ?_; clear E a; intro a E
        refine zp E (zAd E rfl rfl) ?_; clear E a; intro a E
        refine wpList_nil ?_
        refine zAf hK ?_; clear hK; clear K
        refine wp_ret ?_
        refine ret1 E rfl rfl ?_
        refine ⟨_, rfl, ?_, S.tr⟩
        congr 1
        refine hno ⟨fun q => ?_, fun q => ?_⟩
        · first
            | exact Bool.noConfusion q
            | exact ⟨by omega, by omega, fun p hp' => by rw [hp] at hp'; rcases List.mem_append.1 hp' with q' | q'; exact hcl p q'; rw [List.mem_singleton.1 q']; exact q⟩
        · have h2 := q.2.1
          first
            | exact q.2.2 _ (by rw [hp]; simp)
            | (exfalso; omega)
theorem uvalue20_ret (l : List UInt8) (hl : l.length ≤ 140737488355328) (As : List zAw) (w0 : World) (H : Hp w0 As) :
    Ret Tryz.prog 80 #[str l] w0 fun u w' => u = .bool (decide (1 ≤ l.length ∧ l.length ≤ 64) && valB l) ∧ Trs w0 w' As As := by
  have S := St.begin H
  refine zCu 28 Tryz.func80 rfl rfl (by decide) ?_; intro a E
  refine wp_seq_k ?_; intro K hK
  refine zAb ?_
  refine zp E (zAd E rfl rfl) ?_; clear E a; intro a E
  refine wpList_nil ?_
  refine zAf hK ?_; clear hK; clear K
  iterate 2 (refine wp_seq_k ?_; intro K hK)
  refine zAb ?_
  refine zp E (zAd E rfl rfl) ?_; clear E a; intro a E
  refine wpList_nil ?_
  refine zAf hK ?_; clear hK; clear K
  refine wp_block ?_
  refine wp_loop_ghost (fun (m : Nat) (a : Act) (w' : World) => ∃ i : Nat, m = l.length - i ∧ i ≤ l.length ∧ (∀ k, ∀ hk : k < l.length, k < i → 32 ≤ l[k].toNat ∧ l[k].toNat ≤ 126) ∧ St w0 As w' As ∧ Fr a 28 [(0, str l), (2, .bool false), (3, .int .i64 i)]) (l.length) ?_ ?_
  · exact ⟨0, by omega, by omega, by intro k _ h; omega, S, E.keep (zAa rfl (zAa rfl (zAa rfl zAm)))⟩
  clear E; clear a; (try clear S); rintro m a w ⟨i, rfl, hi, hok, S, E⟩
  iterate 2 (refine wp_seq_k ?_; intro K hK)
  refine zAb ?_
  iterate 2 (refine zp E (zAe E rfl rfl) ?_; clear E a; intro a E)
  refine zp E (by first | exact zBu E rfl rfl rfl | exact zAx E rfl rfl rfl | exact zAq E rfl rfl rfl) ?_; clear E a; intro a E
  refine zp E (zCk E rfl rfl rfl) ?_; clear E a; intro a E
  refine wpList_nil ?_
  refine zAf hK ?_; clear hK; clear K
  refine zBh E rfl (fun hb => ?_) (fun hb => ?_)
  · replace hb := Nrm.nrm hb
    refine wp_skip ?_
    refine zAf hK ?_; clear hK; clear K
    refine wp_seq_k ?_; intro K hK
    refine wp_block ?_
    refine wp_seq_k ?_; intro K hK
    have hil : i < l.length := by omega
    refine zAb ?_
    iterate 2 (refine zp E (zAe E rfl rfl) ?_; clear E a; intro a E)
    refine zp E (by first | exact zEg E rfl rfl rfl rfl rfl (by assumption) | exact zCz E rfl rfl rfl rfl rfl (by omega)) ?_; clear E a; intro a E
    refine zp E (zCk E rfl rfl rfl) ?_; clear E a; intro a E
    refine zp E (zAe E rfl rfl) ?_; clear E a; intro a E
    refine zAr E (t := 14) rfl (fun hb14 => ?_) (fun hb14 => ?_)
    · have hb14n := hb14; replace hb14n := Nrm.nrm hb14n
      iterate 4 (refine zn E hb14 ?_; clear E a; intro a E)
      refine zp E (zAk E rfl rfl hb14 rfl) ?_; clear E a; intro a E
      refine wpList_nil ?_
      refine zAf hK ?_; clear hK; clear K
      refine zCe E rfl rfl ?_
      refine wp_seq_k ?_; intro K hK
      refine zAb ?_
      refine zp E (zAd E rfl rfl) ?_; clear E a; intro a E
      refine wpList_nil ?_
      refine zAf hK ?_; clear hK; clear K
      refine wp_ret ?_
      refine zCj ?_
      refine zAy ?_; clear hK; clear K
      refine zAy ?_
      refine zCj ?_
      refine zAy ?_; clear hK; clear K
      refine ret1 E rfl rfl ?_
      exact ⟨_, rfl, by rw [valB_no (fun q => by have := q i hil; first | omega | (simp at hb; omega))]; simp, S.tr⟩
    · have hb14n := hb14; replace hb14n := Nrm.nrm hb14n
      iterate 2 (refine zy E hb14 (zAe E rfl rfl) ?_; clear E a; intro a E)
      refine zy E hb14 (by first | exact zEg E rfl rfl rfl rfl rfl (by assumption) | exact zCz E rfl rfl rfl rfl rfl (by omega)) ?_; clear E a; intro a E
      refine zy E hb14 (zDt E rfl rfl rfl) ?_; clear E a; intro a E
      refine zp E (zAi E rfl rfl hb14 rfl) ?_; clear E a; intro a E
      refine wpList_nil ?_
      refine zAf hK ?_; clear hK; clear K
      refine zBh E rfl (fun hb => ?_) (fun hb => ?_)
      · replace hb := Nrm.nrm hb
        refine wp_seq_k ?_; intro K hK
        refine zAb ?_
        refine zp E (zAd E rfl rfl) ?_; clear E a; intro a E
        refine wpList_nil ?_
        refine zAf hK ?_; clear hK; clear K
        refine wp_ret ?_
        refine zCj ?_
        refine zAy ?_; clear hK; clear K
        refine zAy ?_
        refine zCj ?_
        refine zAy ?_; clear hK; clear K
        refine ret1 E rfl rfl ?_
        exact ⟨_, rfl, by rw [valB_no (fun q => by have := q i hil; first | omega | (simp at hb; omega))]; simp, S.tr⟩
      · replace hb := Nrm.nrm hb
        refine wp_skip ?_
        refine zBe ?_
        refine zAf hK ?_; clear hK; clear K
        refine zAb ?_
        refine zp E (zAe E rfl rfl) ?_; clear E a; intro a E
        refine zp E (zBt E rfl rfl rfl (by first | exact zCh (y := 1) (by omega) | exact w_in (by omega) | exact zBw (by omega) | exact rfl)) ?_; clear E a; intro a E
        refine zp E (zAd E rfl rfl) ?_; clear E a; intro a E
        refine wpList_nil ?_
        refine zBj ?_
        exact ⟨_, by omega, i + 1, rfl, by omega, valP_more hok hil (by first | omega | (simp at hb; omega)), S, E.keep (zAa rfl (zAa rfl (zAa rfl zAm)))⟩
  · replace hb := Nrm.nrm hb
    refine wp_exit ?_
    refine zBa ?_; clear hK; clear K
    refine zBa ?_
    refine zCg ?_
    refine zAf hK ?_; clear hK; clear K
    refine wp_seq_k ?_; intro K hK
    refine zAb ?_
    refine zp E (zAe E rfl rfl) ?_; clear E a; intro a E
    refine zp E (by first | exact zBu E rfl rfl rfl | exact zAx E rfl rfl rfl | exact zAq E rfl rfl rfl) ?_; clear E a; intro a E
    refine zp E (zDy E rfl rfl rfl) ?_; clear E a; intro a E
    refine zp E (zAe E rfl rfl) ?_; clear E a; intro a E
    refine zAr E (t := 23) rfl (fun hb23 => ?_) (fun hb23 => ?_)
    · have hb23n := hb23; replace hb23n := Nrm.nrm hb23n
      refine zy E hb23 (zAe E rfl rfl) ?_; clear E a; intro a E
      refine zy E hb23 (by first | exact zBu E rfl rfl rfl | exact zAx E rfl rfl rfl | exact zAq E rfl rfl rfl) ?_; clear E a; intro a E
      refine zy E hb23 (zDx E rfl rfl rfl) ?_; clear E a; intro a E
      refine zp E (zAk E rfl rfl hb23 rfl) ?_; clear E a; intro a E
      refine zp E (zAd E rfl rfl) ?_; clear E a; intro a E
      refine wpList_nil ?_
      refine zAf hK ?_; clear hK; clear K
      refine wp_ret ?_
      refine ret1 E rfl rfl ?_
      exact ⟨_, rfl, by rw [valB_yes (fun k hk => hok k hk (by omega))]; congr 1; rw [Bool.eq_iff_iff]; simp; omega, S.tr⟩
    · have hb23n := hb23; replace hb23n := Nrm.nrm hb23n
      iterate 3 (refine zn E hb23 ?_; clear E a; intro a E)
      refine zp E (zAi E rfl rfl hb23 rfl) ?_; clear E a; intro a E
      refine zp E (zAd E rfl rfl) ?_; clear E a; intro a E
      refine wpList_nil ?_
      refine zAf hK ?_; clear hK; clear K
      refine wp_ret ?_
      refine ret1 E rfl rfl ?_
      exact ⟨_, rfl, by rw [valB_yes (fun k hk => hok k hk (by omega))]; congr 1; rw [Bool.eq_iff_iff]; simp; omega, S.tr⟩
theorem uris_ret (C : zAw) (v : Value) (l : List Int) (hR : Rd C 1 v l.length (ints l)) (hl : l.length ≤ 140737488355328) (x y : Int) (As : List zAw) (hC : C ∈ As) (w0 : World) (H : Hp w0 As) :
    Ret Tryz.prog 36 #[v, .int .i64 x, .int .i64 y] w0 fun u w' => u = .bool (risB l x y) ∧ Trs w0 w' As As := by
  have S := St.begin H
  obtain ⟨ad, c, rfl⟩ := hR.slice
  refine zFy 47 Tryz.func36 rfl rfl (by decide) ?_; intro a E
  refine wp_seq_k ?_; intro K hK
  refine zAb ?_
  refine zp E (zAd E rfl rfl) ?_; clear E a; intro a E
  refine wpList_nil ?_
  refine zAf hK ?_; clear hK; clear K
  iterate 2 (refine wp_seq_k ?_; intro K hK)
  refine zAb ?_
  refine zp E (zAd E rfl rfl) ?_; clear E a; intro a E
  refine wpList_nil ?_
  refine zAf hK ?_; clear hK; clear K
  refine wp_block ?_
  refine wp_loop_ghost (fun (m : Nat) (a : Act) (w' : World) => ∃ i : Nat, m = l.length - i ∧ i ≤ l.length ∧ (∀ k, ∀ hk : k < l.length, k < i → risAt l x y k hk) ∧ St w0 As w' As ∧ Fr a 47 [(0, .slice ad l.length c), (1, .int .i64 x), (2, .int .i64 y), (6, .bool false), (7, .int .i64 i)]) (l.length) ?_ ?_
  · exact ⟨0, by omega, by omega, by intro k _ h; omega, S, E.keep (zAa rfl (zAa rfl (zAa rfl (zAa rfl (zAa rfl zAm)))))⟩
  clear E; clear a; (try clear S); rintro m a w ⟨i, rfl, hi, hok, S, E⟩
  iterate 2 (refine wp_seq_k ?_; intro K hK)
  refine zAb ?_
  iterate 2 (refine zp E (zAe E rfl rfl) ?_; clear E a; intro a E)
  refine zp E (by first | exact zBu E rfl rfl rfl | exact zAx E rfl rfl rfl | exact zAq E rfl rfl rfl) ?_; clear E a; intro a E
  refine zp E (zCk E rfl rfl rfl) ?_; clear E a; intro a E
  refine wpList_nil ?_
  refine zAf hK ?_; clear hK; clear K
  refine zBh E rfl (fun hb => ?_) (fun hb => ?_)
  · replace hb := Nrm.nrm hb
    refine wp_skip ?_
    refine zAf hK ?_; clear hK; clear K
    refine wp_seq_k ?_; intro K hK
    refine wp_block ?_
    refine wp_seq_k ?_; intro K hK
    have hil : i < l.length := by omega
    obtain ⟨b, off, rfl⟩ := hR.addr (by omega)
    refine zEc (fun (a : Act) (w' : World) => ∃ z, (z = true ↔ ¬ risAt l x y i hil) ∧ St w0 As w' As ∧ Fr a 47 [(0, .slice (some ⟨b, off, none⟩) l.length c), (1, .int .i64 x), (2, .int .i64 y), (6, .bool false), (7, .int .i64 i), (43, .bool z)]) ?_ ?_
    · skip
      refine zCb S (.ofL [(0, 0), (1, 0), (2, 0), (3, 0), (4, 0), (5, 0), (6, 0), (7, 0), (8, 0), (9, 0), (10, 0), (11, 0), (12, 0), (13, 0), (14, 0), (15, 0), (16, 0), (17, 0), (18, 0), (19, 0), (20, 0), (21, 0), (22, 0), (23, 0), (24, 0), (25, 0), (26, 0), (27, 0), (28, 0), (29, 0)]) (by kernel_rfl) (by kernel_rfl) ?_
      clear S; intro w S
      iterate 2 (refine zm E rfl (fun w h => zAe E rfl rfl) ?_; clear E a; intro a E)
      refine zm E rfl (fun w h => by first | exact zBo E rfl rfl rfl rfl rfl rfl (by omega) | exact zBq E rfl rfl rfl rfl rfl rfl (by omega) | exact zBd E rfl rfl rfl rfl rfl rfl (by omega)) ?_; clear E a; intro a E
      refine zm E rfl (fun w h => zAj E rfl rfl rfl (hR.cells (h.at hC) rfl i _ (zFq hil))) ?_; clear E a; intro a E
      refine zm E rfl (fun w h => zAe E rfl rfl) ?_; clear E a; intro a E
      refine zm E rfl (fun w h => zCk E rfl rfl rfl) ?_; clear E a; intro a E
      refine zm E rfl (fun w h => zAe E rfl rfl) ?_; clear E a; intro a E
      refine zAr E (t := 20) rfl (fun hb20 => ?_) (fun hb20 => ?_)
      · have hb20n := hb20; replace hb20n := Nrm.nrm hb20n
        iterate 6 (refine zCa E rfl rfl rfl rfl rfl hb20 rfl (by decide) ?_; clear E a; intro a E)
        refine zm E rfl (fun w h => zAk E rfl rfl hb20 rfl) ?_; clear E a; intro a E
        refine zm E rfl (fun w h => zAe E rfl rfl) ?_; clear E a; intro a E
        iterate 3 (refine zCa E rfl rfl rfl rfl rfl rfl rfl (by decide) ?_; clear E a; intro a E)
        iterate 10 (refine zDl E rfl rfl rfl rfl rfl rfl (by decide) ?_; clear E a; intro a E)
        refine zCa E rfl rfl rfl rfl rfl rfl rfl (by decide) ?_; clear E a; intro a E
        refine zm E rfl (fun w h => zAk E rfl rfl rfl rfl) ?_; clear E a; intro a E
        refine zBz ?_
        refine zAv ?_
        refine ⟨_, ⟨fun q r => ?_, fun q => ?_⟩, S, E.keep (zAa rfl (zAa rfl (zAa rfl (zAa rfl (zAa rfl (zAa rfl zAm))))))⟩
        · have r1 := r.1
          have r2 := r.2.1
          have r3 := r.2.2
          first | omega | (have := r3 (by omega); simp at q <;> omega) | (simp at q <;> omega)
        · first | rfl | (apply Classical.byContradiction; intro q2; exact q ⟨by omega, by omega, fun h0 => by first | omega | (simp at q2; omega)⟩)
      · have hb20n := hb20; replace hb20n := Nrm.nrm hb20n
        iterate 2 (refine zAz E rfl rfl rfl rfl rfl hb20 rfl (by decide) (fun w h => zAe E rfl rfl) ?_; clear E a; intro a E)
        refine zAz E rfl rfl rfl rfl rfl hb20 rfl (by decide) (fun w h => by first | exact zBo E rfl rfl rfl rfl rfl rfl (by omega) | exact zBq E rfl rfl rfl rfl rfl rfl (by omega) | exact zBd E rfl rfl rfl rfl rfl rfl (by omega)) ?_; clear E a; intro a E
        refine zAz E rfl rfl rfl rfl rfl hb20 rfl (by decide) (fun w h => zAj E rfl rfl rfl (hR.cells (h.at hC) rfl i _ (zFq hil))) ?_; clear E a; intro a E
        refine zAz E rfl rfl rfl rfl rfl hb20 rfl (by decide) (fun w h => zAe E rfl rfl) ?_; clear E a; intro a E
        refine zAz E rfl rfl rfl rfl rfl hb20 rfl (by decide) (fun w h => zDt E rfl rfl rfl) ?_; clear E a; intro a E
        refine zm E rfl (fun w h => zAi E rfl rfl hb20 rfl) ?_; clear E a; intro a E
        refine zm E rfl (fun w h => zAe E rfl rfl) ?_; clear E a; intro a E
        refine zAr E (t := 28) rfl (fun hb28 => ?_) (fun hb28 => ?_)
        · have hb28n := hb28; replace hb28n := Nrm.nrm hb28n
          iterate 3 (refine zCa E rfl rfl rfl rfl rfl hb28 rfl (by decide) ?_; clear E a; intro a E)
          iterate 10 (refine zDl E rfl rfl rfl rfl rfl rfl (by decide) ?_; clear E a; intro a E)
          refine zCa E rfl rfl rfl rfl rfl hb28 rfl (by decide) ?_; clear E a; intro a E
          refine zm E rfl (fun w h => zAk E rfl rfl hb28 rfl) ?_; clear E a; intro a E
          refine zBz ?_
          refine zAv ?_
          refine ⟨_, ⟨fun q r => ?_, fun q => ?_⟩, S, E.keep (zAa rfl (zAa rfl (zAa rfl (zAa rfl (zAa rfl (zAa rfl zAm))))))⟩
          · have r1 := r.1
            have r2 := r.2.1
            have r3 := r.2.2
            first | omega | (have := r3 (by omega); simp at q <;> omega) | (simp at q <;> omega)
          · first | rfl | (apply Classical.byContradiction; intro q2; exact q ⟨by omega, by omega, fun h0 => by first | omega | (simp at q2; omega)⟩)
        · have hb28n := hb28; replace hb28n := Nrm.nrm hb28n
          refine zAz E rfl rfl rfl rfl rfl hb28 rfl (by decide) (fun w h => zAe E rfl rfl) ?_; clear E a; intro a E
          refine zAz E rfl rfl rfl rfl rfl hb28 rfl (by decide) (fun w h => zDt E rfl rfl rfl) ?_; clear E a; intro a E
          refine zAz E rfl rfl rfl rfl rfl hb28 rfl (by decide) (fun w h => zAe E rfl rfl) ?_; clear E a; intro a E
          refine zAr E (t := 31) rfl (fun hb31 => ?_) (fun hb31 => ?_)
          · have hb31n := hb31; replace hb31n := Nrm.nrm hb31n
            iterate 2 (refine zAz E rfl rfl rfl rfl rfl hb31 rfl (by decide) (fun w h => zAe E rfl rfl) ?_; clear E a; intro a E)
            refine zAz E rfl rfl rfl rfl rfl hb31 rfl (by decide) (fun w h => zEe E rfl rfl rfl (by first | exact zFu (y := 1) (by omega) (by omega) | exact w_in (by omega) | exact zBw (by omega) | exact rfl)) ?_; clear E a; intro a E
            refine zAz E rfl rfl rfl rfl rfl hb31 rfl (by decide) (fun w h => by first | exact zBo E rfl rfl rfl rfl rfl rfl (by omega) | exact zBq E rfl rfl rfl rfl rfl rfl (by omega) | exact zBd E rfl rfl rfl rfl rfl rfl (by omega)) ?_; clear E a; intro a E
            refine zAz E rfl rfl rfl rfl rfl hb31 rfl (by decide) (fun w h => zAj E rfl rfl rfl (hR.cells (h.at hC) rfl (i - 1) _ (zFq (l := l) (i := i - 1) (by omega)))) ?_; clear E a; intro a E
            iterate 2 (refine zAz E rfl rfl rfl rfl rfl hb31 rfl (by decide) (fun w h => zAe E rfl rfl) ?_; clear E a; intro a E)
            refine zAz E rfl rfl rfl rfl rfl hb31 rfl (by decide) (fun w h => by first | exact zBo E rfl rfl rfl rfl rfl rfl (by omega) | exact zBq E rfl rfl rfl rfl rfl rfl (by omega) | exact zBd E rfl rfl rfl rfl rfl rfl (by omega)) ?_; clear E a; intro a E
            refine zAz E rfl rfl rfl rfl rfl hb31 rfl (by decide) (fun w h => zAj E rfl rfl rfl (hR.cells (h.at hC) rfl i _ (zFq hil))) ?_; clear E a; intro a E
            refine zAz E rfl rfl rfl rfl rfl hb31 rfl (by decide) (fun w h => zDy E rfl rfl rfl) ?_; clear E a; intro a E
            refine zAz E rfl rfl rfl rfl rfl hb28 rfl (by decide) (fun w h => zAk E rfl rfl hb31 rfl) ?_; clear E a; intro a E
            refine zm E rfl (fun w h => zAi E rfl rfl hb28 rfl) ?_; clear E a; intro a E
            refine zBz ?_
            refine zAv ?_
            refine ⟨_, ⟨fun q r => ?_, fun q => ?_⟩, S, E.keep (zAa rfl (zAa rfl (zAa rfl (zAa rfl (zAa rfl (zAa rfl zAm))))))⟩
            · have r1 := r.1
              have r2 := r.2.1
              have r3 := r.2.2
              first | omega | (have := r3 (by omega); simp at q <;> omega) | (simp at q <;> omega)
            · first | rfl | (apply Classical.byContradiction; intro q2; exact q ⟨by omega, by omega, fun h0 => by first | omega | (simp at q2; omega)⟩)
          · have hb31n := hb31; replace hb31n := Nrm.nrm hb31n
            iterate 10 (refine zCa E rfl rfl rfl rfl rfl hb31 rfl (by decide) ?_; clear E a; intro a E)
            refine zAz E rfl rfl rfl rfl rfl hb28 rfl (by decide) (fun w h => zAi E rfl rfl hb31 rfl) ?_; clear E a; intro a E
            refine zm E rfl (fun w h => zAi E rfl rfl hb28 rfl) ?_; clear E a; intro a E
            refine zBz ?_
            refine zAv ?_
            refine ⟨_, ⟨fun q r => ?_, fun q => ?_⟩, S, E.keep (zAa rfl (zAa rfl (zAa rfl (zAa rfl (zAa rfl (zAa rfl zAm))))))⟩
            · have r1 := r.1
              have r2 := r.2.1
              have r3 := r.2.2
              first | omega | (have := r3 (by omega); simp at q <;> omega) | (simp at q <;> omega)
            · first | rfl | (apply Classical.byContradiction; intro q2; exact q ⟨by omega, by omega, fun h0 => by first | omega | (simp at q2; omega)⟩)
    · clear E S a; intro a w J; obtain ⟨_, hz, S, E⟩ := J
      refine zAf hK ?_; clear hK; clear K
      refine zBh E rfl (fun hb => ?_) (fun hb => ?_)
      · replace hb := Nrm.nrm hb
        refine wp_seq_k ?_; intro K hK
        refine zAb ?_
        refine zp E (zAd E rfl rfl) ?_; clear E a; intro a E
        refine wpList_nil ?_
        refine zAf hK ?_; clear hK; clear K
        refine wp_ret ?_
        refine zCj ?_
        refine zAy ?_; clear hK; clear K
        refine zAy ?_
        refine zCj ?_
        refine zAy ?_; clear hK; clear K
        refine ret1 E rfl rfl ?_
        exact ⟨_, rfl, by congr 1; exact (risB_no fun q => hz.1 hb (q.2 i hil)).symm, S.tr⟩
      · replace hb := Nrm.nrm hb
        refine wp_skip ?_
        refine zBe ?_
        refine zAf hK ?_; clear hK; clear K
        refine zAb ?_
        refine zp E (zAe E rfl rfl) ?_; clear E a; intro a E
        refine zp E (zBt E rfl rfl rfl (by first | exact zCh (y := 1) (by omega) | exact w_in (by omega) | exact zBw (by omega) | exact rfl)) ?_; clear E a; intro a E
        refine zp E (zAd E rfl rfl) ?_; clear E a; intro a E
        refine wpList_nil ?_
        refine zBj ?_
        exact ⟨_, by omega, i + 1, rfl, by omega, zGc hok hil (Classical.byContradiction fun q => by rw [hz.2 q] at hb; cases hb), S, E.keep (zAa rfl (zAa rfl (zAa rfl (zAa rfl (zAa rfl zAm)))))⟩
  · replace hb := Nrm.nrm hb
    refine wp_exit ?_
    refine zBa ?_; clear hK; clear K
    refine zBa ?_
    refine zCg ?_
    refine zAf hK ?_; clear hK; clear K
    refine wp_seq_k ?_; intro K hK
    refine zAb ?_
    refine zp E (zAe E rfl rfl) ?_; clear E a; intro a E
    refine zp E (by first | exact zBu E rfl rfl rfl | exact zAx E rfl rfl rfl | exact zAq E rfl rfl rfl) ?_; clear E a; intro a E
    refine zp E (zDx E rfl rfl rfl) ?_; clear E a; intro a E
    refine zp E (zAd E rfl rfl) ?_; clear E a; intro a E
    refine wpList_nil ?_
    refine zAf hK ?_; clear hK; clear K
    refine wp_ret ?_
    refine ret1 E rfl rfl ?_
    exact ⟨_, rfl, by congr 1; rw [Bool.eq_iff_iff, ris_end (l := l) (fun k hk => hok k hk (by omega))]; first | (simp; done) | (simp; omega), S.tr⟩
end Go.Proofs.YtbogecljkaimdaaGreatDoor
namespace Go.Sl
def fN : List Bool → Nat
  | [] => 0
  | b :: r => (if b then 1 else 0) + 2 * fN r
theorem fN_step : ∀ (l : List Bool) (i : Nat) (h : i < l.length), fN (l.take (i + 1)) = fN (l.take i) + (if l[i] then 2 ^ i else 0)
  | b :: r, 0, _ => by simp [fN]
  | b :: r, i + 1, h => by
    have ih := fN_step r i (by simpa using h)
    simp only [List.take_succ_cons, fN, List.getElem_cons_succ]
    rw [ih]
    have hi : i < r.length := by simpa using h
    by_cases hr : r[i]'hi = true
    · simp only [hr, if_true, Nat.pow_succ]; split <;> omega
    · simp only [if_neg hr]; omega
theorem fN_lt : ∀ (l : List Bool), fN l < 2 ^ l.length
  | [] => by simp [fN]
  | b :: r => by
    have := fN_lt r
    simp only [fN, List.length_cons, Nat.pow_succ]
    split <;> omega
def zJf : List Bool → List Bool → Bool
  | [], _ => true
  | b :: r, m :: ms => (!b || m) && zJf r ms
  | b :: r, [] => !b && zJf r []
theorem onlyL_iff : ∀ (l m : List Bool), l.length = m.length → ((fN l ||| fN m = fN m) ↔ zJf l m = true)
  | [], [], _ => by simp [fN, zJf]
  | b :: r, c :: ms, h => by
    have ih := onlyL_iff r ms (by simpa using h)
    simp only [fN, zJf, Bool.and_eq_true, ← ih]
    generalize fN r = x
    generalize fN ms = y
    have hd : ∀ z w : Nat, z = w ↔ z / 2 = w / 2 ∧ z % 2 = w % 2 := fun z w => by omega
    have e1 : ∀ (b : Bool) (z : Nat), ((if b = true then 1 else 0) + 2 * z) / 2 = z := fun b z => by cases b <;> simp <;> omega
    have e2 : ∀ (b : Bool) (z : Nat), ((if b = true then 1 else 0) + 2 * z) % 2 ^ 1 = if b = true then 1 else 0 := fun b z => by cases b <;> simp <;> omega
    rw [hd, Nat.or_div_two, show ∀ z : Nat, z % 2 = z % 2 ^ 1 from fun z => rfl, Nat.or_mod_two_pow, e1, e1, e2, e2]
    cases b <;> cases c <;> simp
  | [], _ :: _, h => by simp at h
  | _ :: _, [], h => by simp at h
theorem ori {p q : Nat} (hp : p < 4096) (hq : q < 4096) : bits .or .i64 (p : Int) (q : Int) = ((p ||| q : Nat) : Int) := by
  have h2 : ∀ z : Nat, z < 4096 → (BitVec.ofInt 64 (z : Int)).toNat = z := fun z hz => by
    rw [BitVec.ofInt_natCast, BitVec.toNat_ofNat]; exact Nat.mod_eq_of_lt (by omega)
  show IntKind.i64.wrap (((BitVec.ofInt 64 (p : Int) ||| BitVec.ofInt 64 (q : Int)).toNat : Nat) : Int) = _
  rw [BitVec.toNat_or, h2 p hp, h2 q hq]
  have : p ||| q < 2 ^ 12 := Nat.or_lt_two_pow (by omega) (by omega)
  exact zFe (by omega)
def zIa (r : Rec) : List Bool :=
  [!decide (r.name = []), r.many != 0, r.typ != 0, r.frm != 0, r.guid != 0, r.origin != 0, !decide (r.snap = []), decide ((0 : Int) < (r.props.length : Int)), r.object != 0, r.at_ != 0, decide ((0 : Int) < (r.keep.length : Int)), decide ((0 : Int) < (r.data.length : Int))]
abbrev bo (l : List Bool) : List Value := l.map Value.bool
def msk (m : Nat) : List Bool := (List.range 12).map m.testBit
def zFr (r : Rec) (m : Nat) : Bool := zJf (zIa r) (msk m)
end Go.Sl
namespace Go.Proofs.YtbogecljkaimdaaGreatDoor
open Go.Sl
set_option maxRecDepth 10000
section
variable {C : zAw} {r : Rec} {pv kv dv : Value} (hR : RecR C r pv kv dv) (hs : Sml r) {As : List zAw} (hC : C ∈ As) (w0 : World) (H : Hp w0 As)
include hR hs H
theorem ufields_ret : Ret Tryz.prog 77 #[.agg (r.cells pv kv dv).toArray] w0 fun u w' => u = .int .i64 (fN (zIa r) : Nat) ∧ Trs w0 w' As As := by
  have S := St.begin H
  obtain ⟨ad1, c1, rfl⟩ := hR.pr.slice
  obtain ⟨ad2, c2, rfl⟩ := hR.kr.slice
  obtain ⟨ad3, c3, rfl⟩ := hR.dr.slice
  have h1 := hs.props
  have h2 := hs.keep
  have h3 := hs.data
  obtain ⟨fl, hfl⟩ : ∃ fl, fl = zIa r := ⟨_, rfl⟩
  have hll : fl.length = 12 := by rw [hfl]; rfl
  have hflc : bo fl = [.bool !decide (r.name = []), .bool (r.many != 0), .bool (r.typ != 0), .bool (r.frm != 0), .bool (r.guid != 0), .bool (r.origin != 0), .bool !decide (r.snap = []), .bool (decide ((0 : Int) < (r.props.length : Int))), .bool (r.object != 0), .bool (r.at_ != 0), .bool (decide ((0 : Int) < (r.keep.length : Int))), .bool (decide ((0 : Int) < (r.data.length : Int)))] := by rw [hfl]; rfl
  refine zCu 63 Tryz.func77 rfl rfl (by decide) ?_; intro a E
  refine wp_seq_k ?_; intro K hK
  refine zAb ?_
  refine zAo rfl (zCm E S rfl rfl (by decide) rfl rfl ?_); clear E S a; intro a w b1 E S
  refine zp E (zAd E rfl rfl) ?_; clear E a; intro a E
  refine wpList_nil ?_
  refine zAf hK ?_; clear hK; clear K
  refine wp_seq_k ?_; intro K hK
  refine zAb ?_
  refine zp E (zAd E rfl rfl) ?_; clear E a; intro a E
  refine wpList_nil ?_
  refine zAf hK ?_; clear hK; clear K
  refine wp_seq_k ?_; intro K hK
  refine zAb ?_
  refine zp E (by first | exact zAg (q := 1) E rfl rfl rfl | exact zAh (q := 1) E rfl rfl rfl) ?_; clear E a; intro a E
  refine zp E (by first | exact zAn E rfl rfl rfl (S.get (by repeat (first | exact pk1 | apply zAc))) rfl | exact zAj E rfl rfl rfl (by assumption)) ?_; clear E a; intro a E
  refine zp E (by first | exact zDa E rfl rfl rfl | exact zBi E rfl rfl rfl rfl | exact zBs E rfl rfl rfl rfl | exact zBl E rfl rfl rfl) ?_; clear E a; intro a E
  refine zp E (by first | exact zAg (q := 10) E rfl rfl rfl | exact zAh (q := 10) E rfl rfl rfl) ?_; clear E a; intro a E
  refine zp E (by first | exact zAn E rfl rfl rfl (S.get (by repeat (first | exact pk1 | apply zAc))) rfl | exact zAj E rfl rfl rfl (by assumption)) ?_; clear E a; intro a E
  refine zp E (by first | exact zDa E rfl rfl rfl | exact zBi E rfl rfl rfl rfl | exact zBs E rfl rfl rfl rfl | exact zBl E rfl rfl rfl) ?_; clear E a; intro a E
  refine zp E (by first | exact zAg (q := 2) E rfl rfl rfl | exact zAh (q := 2) E rfl rfl rfl) ?_; clear E a; intro a E
  refine zp E (by first | exact zAn E rfl rfl rfl (S.get (by repeat (first | exact pk1 | apply zAc))) rfl | exact zAj E rfl rfl rfl (by assumption)) ?_; clear E a; intro a E
  refine zp E (by first | exact zDa E rfl rfl rfl | exact zBi E rfl rfl rfl rfl | exact zBs E rfl rfl rfl rfl | exact zBl E rfl rfl rfl) ?_; clear E a; intro a E
  refine zp E (by first | exact zAg (q := 3) E rfl rfl rfl | exact zAh (q := 3) E rfl rfl rfl) ?_; clear E a; intro a E
  refine zp E (by first | exact zAn E rfl rfl rfl (S.get (by repeat (first | exact pk1 | apply zAc))) rfl | exact zAj E rfl rfl rfl (by assumption)) ?_; clear E a; intro a E
  refine zp E (by first | exact zDa E rfl rfl rfl | exact zBi E rfl rfl rfl rfl | exact zBs E rfl rfl rfl rfl | exact zBl E rfl rfl rfl) ?_; clear E a; intro a E
  refine zp E (by first | exact zAg (q := 4) E rfl rfl rfl | exact zAh (q := 4) E rfl rfl rfl) ?_; clear E a; intro a E
  refine zp E (by first | exact zAn E rfl rfl rfl (S.get (by repeat (first | exact pk1 | apply zAc))) rfl | exact zAj E rfl rfl rfl (by assumption)) ?_; clear E a; intro a E
  refine zp E (by first | exact zDa E rfl rfl rfl | exact zBi E rfl rfl rfl rfl | exact zBs E rfl rfl rfl rfl | exact zBl E rfl rfl rfl) ?_; clear E a; intro a E
  refine zp E (by first | exact zAg (q := 5) E rfl rfl rfl | exact zAh (q := 5) E rfl rfl rfl) ?_; clear E a; intro a E
  refine zp E (by first | exact zAn E rfl rfl rfl (S.get (by repeat (first | exact pk1 | apply zAc))) rfl | exact zAj E rfl rfl rfl (by assumption)) ?_; clear E a; intro a E
  refine zp E (by first | exact zDa E rfl rfl rfl | exact zBi E rfl rfl rfl rfl | exact zBs E rfl rfl rfl rfl | exact zBl E rfl rfl rfl) ?_; clear E a; intro a E
  refine zp E (by first | exact zAg (q := 6) E rfl rfl rfl | exact zAh (q := 6) E rfl rfl rfl) ?_; clear E a; intro a E
  refine zp E (by first | exact zAn E rfl rfl rfl (S.get (by repeat (first | exact pk1 | apply zAc))) rfl | exact zAj E rfl rfl rfl (by assumption)) ?_; clear E a; intro a E
  refine zp E (by first | exact zDa E rfl rfl rfl | exact zBi E rfl rfl rfl rfl | exact zBs E rfl rfl rfl rfl | exact zBl E rfl rfl rfl) ?_; clear E a; intro a E
  refine zp E (by first | exact zAg (q := 7) E rfl rfl rfl | exact zAh (q := 7) E rfl rfl rfl) ?_; clear E a; intro a E
  refine zp E (by first | exact zAn E rfl rfl rfl (S.get (by repeat (first | exact pk1 | apply zAc))) rfl | exact zAj E rfl rfl rfl (by assumption)) ?_; clear E a; intro a E
  refine zp E (by first | exact zBu E rfl rfl rfl | exact zAx E rfl rfl rfl | exact zAq E rfl rfl rfl) ?_; clear E a; intro a E
  refine zp E (zDt E rfl rfl rfl) ?_; clear E a; intro a E
  refine zp E (by first | exact zAg (q := 8) E rfl rfl rfl | exact zAh (q := 8) E rfl rfl rfl) ?_; clear E a; intro a E
  refine zp E (by first | exact zAn E rfl rfl rfl (S.get (by repeat (first | exact pk1 | apply zAc))) rfl | exact zAj E rfl rfl rfl (by assumption)) ?_; clear E a; intro a E
  refine zp E (by first | exact zDa E rfl rfl rfl | exact zBi E rfl rfl rfl rfl | exact zBs E rfl rfl rfl rfl | exact zBl E rfl rfl rfl) ?_; clear E a; intro a E
  refine zp E (by first | exact zAg (q := 9) E rfl rfl rfl | exact zAh (q := 9) E rfl rfl rfl) ?_; clear E a; intro a E
  refine zp E (by first | exact zAn E rfl rfl rfl (S.get (by repeat (first | exact pk1 | apply zAc))) rfl | exact zAj E rfl rfl rfl (by assumption)) ?_; clear E a; intro a E
  refine zp E (by first | exact zDa E rfl rfl rfl | exact zBi E rfl rfl rfl rfl | exact zBs E rfl rfl rfl rfl | exact zBl E rfl rfl rfl) ?_; clear E a; intro a E
  refine zp E (by first | exact zAg (q := 11) E rfl rfl rfl | exact zAh (q := 11) E rfl rfl rfl) ?_; clear E a; intro a E
  refine zp E (by first | exact zAn E rfl rfl rfl (S.get (by repeat (first | exact pk1 | apply zAc))) rfl | exact zAj E rfl rfl rfl (by assumption)) ?_; clear E a; intro a E
  refine zp E (by first | exact zBu E rfl rfl rfl | exact zAx E rfl rfl rfl | exact zAq E rfl rfl rfl) ?_; clear E a; intro a E
  refine zp E (zDt E rfl rfl rfl) ?_; clear E a; intro a E
  refine zp E (by first | exact zAg (q := 12) E rfl rfl rfl | exact zAh (q := 12) E rfl rfl rfl) ?_; clear E a; intro a E
  refine zp E (by first | exact zAn E rfl rfl rfl (S.get (by repeat (first | exact pk1 | apply zAc))) rfl | exact zAj E rfl rfl rfl (by assumption)) ?_; clear E a; intro a E
  refine zp E (by first | exact zBu E rfl rfl rfl | exact zAx E rfl rfl rfl | exact zAq E rfl rfl rfl) ?_; clear E a; intro a E
  refine zp E (zDt E rfl rfl rfl) ?_; clear E a; intro a E
  refine zAo rfl (zDn (cells := [_, _, _, _, _, _, _, _, _, _, _, _]) E S rfl rfl (by decide) rfl rfl rfl rfl rfl (by decide) rfl ?_); clear E S a; intro a w b46 E S
  rw [← hflc] at S
  refine zp E (zAd E rfl rfl) ?_; clear E a; intro a E
  refine wpList_nil ?_
  refine zAf hK ?_; clear hK; clear K
  refine wp_seq_k ?_; intro K hK
  replace E := E.keep (e' := [(2, _), (3, _), (4, _)]) (zAa rfl (zAa rfl (zAa rfl (zAm))))
  refine zAb ?_
  refine zp E (zAd E rfl rfl) ?_; clear E a; intro a E
  refine wpList_nil ?_
  refine zAf hK ?_; clear hK; clear K
  iterate 2 (refine wp_seq_k ?_; intro K hK)
  refine zAb ?_
  refine zp E (zAd E rfl rfl) ?_; clear E a; intro a E
  refine wpList_nil ?_
  refine zAf hK ?_; clear hK; clear K
  refine wp_block ?_
  refine wp_loop_ghost (fun (m : Nat) (a : Act) (w' : World) => ∃ i : Nat, m = 12 - i ∧ i ≤ 12 ∧ St w0 As w' ([(b46, cel (bo fl) 4)] :: As) ∧ Fr a 63 [(3, .int .i64 (fN (fl.take i) : Nat)), (4, .slice (some ⟨b46, 0, none⟩) 12 12), (5, .int .i64 (2 ^ i : Nat)), (6, .int .i64 i)]) (12) ?_ ?_
  · exact ⟨0, by omega, by omega, S.perm2.tail, E.keep (zAa rfl (zAa rfl (zAa rfl (zAa rfl zAm))))⟩
  clear E; clear a; (try clear S); rintro m a w ⟨i, rfl, hi, S, E⟩
  iterate 2 (refine wp_seq_k ?_; intro K hK)
  refine zAb ?_
  iterate 2 (refine zp E (zAe E rfl rfl) ?_; clear E a; intro a E)
  refine zp E (by first | exact zBu E rfl rfl rfl | exact zAx E rfl rfl rfl | exact zAq E rfl rfl rfl) ?_; clear E a; intro a E
  refine zp E (zCk E rfl rfl rfl) ?_; clear E a; intro a E
  refine wpList_nil ?_
  refine zAf hK ?_; clear hK; clear K
  refine zBh E rfl (fun hb => ?_) (fun hb => ?_)
  · replace hb := Nrm.nrm hb
    refine wp_skip ?_
    refine zAf hK ?_; clear hK; clear K
    refine wp_seq_k ?_; intro K hK
    refine wp_block ?_
    iterate 2 (refine wp_seq_k ?_; intro K hK)
    have hil : i < fl.length := by omega
    have hst := fN_step fl i hil
    have hlt := fN_lt (fl.take i)
    rw [List.length_take, Nat.min_eq_left (by omega)] at hlt
    have hp : 2 ^ i ≤ 2048 := Nat.pow_le_pow_right (n := 2) (j := 11) (by omega) (by omega)
    have hps : 2 ^ (i + 1) = 2 * 2 ^ i := by rw [Nat.pow_succ, Nat.mul_comm]
    obtain ⟨q, hq⟩ : ∃ q, q = 2 ^ i := ⟨_, rfl⟩
    rw [← hq] at E hp hlt hst hps
    refine zAb ?_
    iterate 2 (refine zp E (zAe E rfl rfl) ?_; clear E a; intro a E)
    refine zp E (by first | exact zBo E rfl rfl rfl rfl rfl rfl (by omega) | exact zBq E rfl rfl rfl rfl rfl rfl (by omega) | exact zBd E rfl rfl rfl rfl rfl rfl (by omega)) ?_; clear E a; intro a E
    refine zp E (zAj E rfl rfl rfl (zCw (S.get (by repeat (first | exact pk1 | apply zAc))) (by rw [Nat.zero_add, List.getElem?_map, List.getElem?_eq_getElem hil]; rfl))) ?_; clear E a; intro a E
    refine wpList_nil ?_
    refine zAf hK ?_; clear hK; clear K
    refine zEc (fun (a : Act) (w' : World) => St w0 As w' ([(b46, cel (bo fl) 4)] :: As) ∧ Fr a 63 [(3, .int .i64 (fN (fl.take (i + 1)) : Nat)), (4, .slice (some ⟨b46, 0, none⟩) 12 12), (5, .int .i64 (q : Nat)), (6, .int .i64 i)]) ?_ ?_
    · skip
      refine zBh E rfl (fun hb => ?_) (fun hb => ?_)
      · replace hb := Nrm.nrm hb
        refine zAb ?_
        iterate 2 (refine zp E (zAe E rfl rfl) ?_; clear E a; intro a E)
        refine zp E (zBt E rfl rfl rfl (by first | exact wa1 (by omega) | exact w_in (by omega) | exact zBw (by omega) | exact rfl)) ?_; clear E a; intro a E
        refine zp E (zAd E rfl rfl) ?_; clear E a; intro a E
        refine wpList_nil ?_
        refine zAv ?_
        rw [hst, if_pos hb]; exact ⟨S, E.keep (zAa rfl (zAa rfl (zAa rfl (zAa rfl zAm))))⟩
      · replace hb := Nrm.nrm hb
        refine wp_skip ?_
        refine zAv ?_
        rw [hst, if_neg (by rw [hb]; decide)]; exact ⟨S, E.keep (zAa rfl (zAa rfl (zAa rfl (zAa rfl zAm))))⟩
    · clear S E a; intro a w J; obtain ⟨S, E⟩ := J
      refine zAf hK ?_; clear hK; clear K
      refine zAb ?_
      refine zp E (zAe E rfl rfl) ?_; clear E a; intro a E
      refine zp E (zFm E rfl rfl rfl (by first | exact zGr (x := 2) (by omega) | exact zFd (x := 2) (by omega) | exact w_in (by omega) | exact rfl)) ?_; clear E a; intro a E
      refine zp E (zAd E rfl rfl) ?_; clear E a; intro a E
      refine wpList_nil ?_
      refine zBe ?_
      refine zAf hK ?_; clear hK; clear K
      refine zAb ?_
      refine zp E (zAe E rfl rfl) ?_; clear E a; intro a E
      refine zp E (zBt E rfl rfl rfl (by first | exact zCh (y := 1) (by omega) | exact w_in (by omega) | exact zBw (by omega) | exact rfl)) ?_; clear E a; intro a E
      refine zp E (zAd E rfl rfl) ?_; clear E a; intro a E
      refine wpList_nil ?_
      refine zBj ?_
      exact ⟨_, by omega, i + 1, rfl, by omega, S, by rw [hps]; exact E.keep (zAa rfl (zAa rfl (zAa rfl (zAa rfl zAm))))⟩
  · replace hb := Nrm.nrm hb
    refine wp_exit ?_
    refine zBa ?_; clear hK; clear K
    refine zBa ?_
    refine zCg ?_
    refine zAf hK ?_; clear hK; clear K
    refine wp_seq_k ?_; intro K hK
    refine zAb ?_
    refine zp E (zAe E rfl rfl) ?_; clear E a; intro a E
    refine zp E (zAd E rfl rfl) ?_; clear E a; intro a E
    refine wpList_nil ?_
    refine zAf hK ?_; clear hK; clear K
    refine wp_ret ?_
    refine ret1 E rfl rfl ?_
    obtain rfl : i = 12 := by omega
    rw [List.take_of_length_le (by omega), hfl] at E
    exact ⟨_, rfl, by rw [List.take_of_length_le (by omega), hfl], S.tail.tr⟩
theorem zGf (m : Nat) (hm : m < 4096) (hmk : fN (msk m) = m) : Ret Tryz.prog 33 #[.agg (r.cells pv kv dv).toArray, .int .i64 m] w0 fun u w' => u = .bool (zFr r m) ∧ Trs w0 w' As As := by
  have S := St.begin H
  obtain ⟨ad1, c1, rfl⟩ := hR.pr.slice
  obtain ⟨ad2, c2, rfl⟩ := hR.kr.slice
  obtain ⟨ad3, c3, rfl⟩ := hR.dr.slice
  have hlt : fN (zIa r) < 4096 := by
    have h := fN_lt (zIa r)
    rw [show (zIa r).length = 12 from rfl] at h
    omega
  obtain ⟨n, hn⟩ : ∃ n, n = fN (zIa r) := ⟨_, rfl⟩
  rw [← hn] at hlt
  have hfin : ((((n ||| m : Nat) : Int) == (m : Int)) : Bool) = zFr r m := by
    rw [Bool.eq_iff_iff, zFr, ← onlyL_iff (zIa r) (msk m) (by simp [zIa, msk]), hmk, ← hn]
    simp only [beq_iff_eq]
    omega
  refine zCl 11 Tryz.func33 rfl rfl (by decide) ?_; intro a E
  refine wp_seq_k ?_; intro K hK
  refine zAb ?_
  refine zAo rfl (zCm E S rfl rfl (by decide) rfl rfl ?_); clear E S a; intro a w b2 E S
  refine zp E (zAd E rfl rfl) ?_; clear E a; intro a E
  refine wpList_nil ?_
  refine zAf hK ?_; clear hK; clear K
  refine wp_seq_k ?_; intro K hK
  refine zAb ?_
  refine zp E (zBn (vs := [_, _, _, _, _, _, _, _, _, _, _, _, _]) E rfl rfl rfl (S.get (by repeat (first | exact pk1 | apply zAc))) rfl rfl) ?_; clear E a; intro a E
  refine zAp E rfl rfl (by decide) rfl Tryz.func77 rfl (by kernel_rfl) rfl (ufields_ret hR hs _ S.hp) ?_
  rintro v6 w ⟨he, hT⟩; clear E a; intro a E
  rw [← hn] at he; subst he; have S := S.all hT
  refine zp E (zAe E rfl rfl) ?_; clear E a; intro a E
  refine zp E (zHt E rfl rfl rfl (ori hlt hm)) ?_; clear E a; intro a E
  refine zp E (zAe E rfl rfl) ?_; clear E a; intro a E
  refine zp E (by first | exact zCc E rfl rfl rfl | exact zAs E rfl rfl rfl rfl | exact zBb E rfl rfl rfl rfl | exact zAt E rfl rfl rfl) ?_; clear E a; intro a E
  refine zp E (zAd E rfl rfl) ?_; clear E a; intro a E
  refine wpList_nil ?_
  refine zAf hK ?_; clear hK; clear K
  refine wp_ret ?_
  refine ret1 E rfl rfl ?_
  exact ⟨_, rfl, by rw [hfin], S.tail.tr⟩
end
end Go.Proofs.YtbogecljkaimdaaGreatDoor
namespace Go.Sl
theorem beg_no {r : Rec} (h : ¬ begP r) : begB r = false := by simp [begB, h]
end Go.Sl
namespace Go.Proofs.YtbogecljkaimdaaGreatDoor
open Go.Sl
set_option maxRecDepth 10000
section
variable {C : zAw} {r : Rec} {pv kv dv : Value} (hR : RecR C r pv kv dv) (hs : Sml r) {As : List zAw} (hC : C ∈ As) (w0 : World) (H : Hp w0 As)
include hR hs hC H
set_option maxHeartbeats 1000000 in
theorem ubegin_ret : Ret Tryz.prog 35 #[.agg (r.cells pv kv dv).toArray] w0 fun u w' => u = .bool (begB r) ∧ Trs w0 w' As As := by
  have S := St.begin H
  have h1 := hs.name
  have h2 := hs.snap
  have h3 := hs.props
  have hp := hR.pr
  obtain ⟨ad, c, rfl⟩ := hp.slice
  refine zCu 130 Tryz.func35 rfl rfl (by decide) ?_; intro a E
  refine wp_seq_k ?_; intro K hK
  refine zAb ?_
  refine zAo rfl (zCm E S rfl rfl (by decide) rfl rfl ?_); clear E S a; intro a w b1 E S
  refine zp E (zAd E rfl rfl) ?_; clear E a; intro a E
  refine wpList_nil ?_
  refine zAf hK ?_; clear hK; clear K
  refine wp_seq_k ?_; intro K hK
  obtain ⟨nm, hnm⟩ : ∃ nm, nm = r.name := ⟨_, rfl⟩
  have hcells : r.cells (.slice ad r.props.length c) kv dv = [.int .i64 r.kind, str nm, .int .i64 r.typ, .int .i64 r.frm, .int .i64 r.guid, .int .i64 r.origin, str r.snap, .slice ad r.props.length c, .int .i64 r.object, .int .i64 r.at_, .int .i64 r.many, kv, dv] := (by rw [hnm]; rfl)
  rw [hcells] at S
  refine zEc (fun (a : Act) (w' : World) => St w0 As w' ([(b1, cel [.int .i64 r.kind, str nm, .int .i64 r.typ, .int .i64 r.frm, .int .i64 r.guid, .int .i64 r.origin, str r.snap, .slice ad r.props.length c, .int .i64 r.object, .int .i64 r.at_, .int .i64 r.many, kv, dv] 26)] :: As) ∧ Fr a 130 [(1, ptr b1), (2, .bool false), (3, .bool (behB nm))]) ?_ ?_
  · skip
    refine zAb ?_
    refine zp E (by first | exact zAg (q := 1) E rfl rfl rfl | exact zAh (q := 1) E rfl rfl rfl) ?_; clear E a; intro a E
    refine zp E (by first | exact zAn E rfl rfl rfl (S.get (by repeat (first | exact pk1 | apply zAc))) rfl | exact zAj E rfl rfl rfl (by assumption)) ?_; clear E a; intro a E
    refine zp E (by first | exact zCc E rfl rfl rfl | exact zAs E rfl rfl rfl rfl | exact zBb E rfl rfl rfl rfl | exact zAt E rfl rfl rfl) ?_; clear E a; intro a E
    refine zp E (zAe E rfl rfl) ?_; clear E a; intro a E
    refine zAr E (t := 14) rfl (fun hb14 => ?_) (fun hb14 => ?_)
    · have hb14n := hb14; replace hb14n := Nrm.nrm hb14n
      iterate 5 (refine zn E hb14 ?_; clear E a; intro a E)
      iterate 4 (refine zu E ?_; clear E a; intro a E)
      refine zn E hb14 ?_; clear E a; intro a E
      refine zp E (zAk E rfl rfl hb14 rfl) ?_; clear E a; intro a E
      refine zp E (zAd E rfl rfl) ?_; clear E a; intro a E
      refine wpList_nil ?_
      refine zAv ?_
      have e : nm = [] := (by simpa using hb14)
      subst e
      exact ⟨S, E.keep (zAa rfl (zAa rfl (zAa rfl zAm)))⟩
    · have hb14n := hb14; replace hb14n := Nrm.nrm hb14n
      obtain ⟨c0, tl, rfl⟩ := List.exists_cons_of_ne_nil (show nm ≠ [] by simpa using hb14)
      refine zy E hb14 (by first | exact zAg (q := 1) E rfl rfl rfl | exact zAh (q := 1) E rfl rfl rfl) ?_; clear E a; intro a E
      refine zy E hb14 (by first | exact zAn E rfl rfl rfl (S.get (by repeat (first | exact pk1 | apply zAc))) rfl | exact zAj E rfl rfl rfl (by assumption)) ?_; clear E a; intro a E
      refine zy E hb14 (zCz (l := c0 :: tl) (i := 0) E rfl rfl rfl rfl rfl (Nat.succ_pos _)) ?_; clear E a; intro a E
      refine zy E hb14 (by first | exact zCc E rfl rfl rfl | exact zAs E rfl rfl rfl rfl | exact zBb E rfl rfl rfl rfl | exact zAt E rfl rfl rfl) ?_; clear E a; intro a E
      refine zy E hb14 (zAe E rfl rfl) ?_; clear E a; intro a E
      refine zAr E (t := 19) rfl (fun hb19 => ?_) (fun hb19 => ?_)
      · have hb19n := hb19; replace hb19n := Nrm.nrm hb19n
        refine zy E hb19 (by first | exact zAg (q := 1) E rfl rfl rfl | exact zAh (q := 1) E rfl rfl rfl) ?_; clear E a; intro a E
        refine zy E hb19 (by first | exact zAn E rfl rfl rfl (S.get (by repeat (first | exact pk1 | apply zAc))) rfl | exact zAj E rfl rfl rfl (by assumption)) ?_; clear E a; intro a E
        refine zy E hb19 (rn_cat E rfl rfl rfl (by rw [← hnm] at h1; simp only [List.length_cons, List.length_nil] at *; omega)) ?_; clear E a; intro a E
        refine zBx E rfl rfl rfl rfl hb19 ?_; refine zCo E rfl (by decide) rfl Tryz.func79 rfl (by kernel_rfl) rfl (uName_ret (120 :: c0 :: tl) (by rw [List.length_cons, hnm]; omega) _ _ S.hp) ?_
        rintro v23 w ⟨rfl, hT⟩; clear E a; intro a E
        have S := S.all hT
        refine zy E hb14 (zAk E rfl rfl hb19 rfl) ?_; clear E a; intro a E
        refine zp E (zAi E rfl rfl hb14 rfl) ?_; clear E a; intro a E
        refine zp E (zAd E rfl rfl) ?_; clear E a; intro a E
        refine wpList_nil ?_
        refine zAv ?_
        have hb19n : (c0.toNat : Int) = 47 := hb19n
        have e : c0 = 47 := UInt8.toNat_inj.1 (show c0.toNat = 47 by omega)
        have e2 : behB (c0 :: tl) = nameB (120 :: c0 :: tl) := by simp [behB, e]
        rw [e2]
        exact ⟨S, E.keep (zAa rfl (zAa rfl (zAa rfl zAm)))⟩
      · have hb19n := hb19; replace hb19n := Nrm.nrm hb19n
        iterate 4 (refine zn E hb19 ?_; clear E a; intro a E)
        refine zy E hb14 (zAi E rfl rfl hb19 rfl) ?_; clear E a; intro a E
        refine zp E (zAi E rfl rfl hb14 rfl) ?_; clear E a; intro a E
        refine zp E (zAd E rfl rfl) ?_; clear E a; intro a E
        refine wpList_nil ?_
        refine zAv ?_
        have e : ¬ c0 = 47 := fun q => by subst q; simp at hb19n
        have e2 : behB (c0 :: tl) = false := by simp [behB, e]
        rw [e2]
        exact ⟨S, E.keep (zAa rfl (zAa rfl (zAa rfl zAm)))⟩
  · clear E S a; intro a w J; obtain ⟨S, E⟩ := J
    refine zAf hK ?_; clear hK; clear K
    refine wp_seq_k ?_; intro K hK
    refine zAb ?_
    refine zp E (by first | exact zAg (q := 6) E rfl rfl rfl | exact zAh (q := 6) E rfl rfl rfl) ?_; clear E a; intro a E
    refine zp E (by first | exact zAn E rfl rfl rfl (S.get (by repeat (first | exact pk1 | apply zAc))) rfl | exact zAj E rfl rfl rfl (by assumption)) ?_; clear E a; intro a E
    refine zAp E rfl rfl (by decide) rfl Tryz.func34 rfl (by kernel_rfl) rfl (zKr r.snap (by omega) _ _ S.hp) ?_
    rintro v28 w ⟨rfl, hT⟩; clear E a; intro a E
    have S := S.all hT
    refine zp E (zAd E rfl rfl) ?_; clear E a; intro a E
    refine wpList_nil ?_
    refine zAf hK ?_; clear hK; clear K
    refine wp_seq_k ?_; intro K hK
    refine zEc (fun (a : Act) (w' : World) => ∃ z, (z = true ↔ ((1 ≤ r.typ ∧ r.typ ≤ 2) ∧ (0 ≤ r.frm ∧ r.frm ≤ 2199023255552) ∧ (1 ≤ r.guid ∧ r.guid ≤ 2199023255552))) ∧ St w0 As w' ([(b1, cel [.int .i64 r.kind, str nm, .int .i64 r.typ, .int .i64 r.frm, .int .i64 r.guid, .int .i64 r.origin, str r.snap, .slice ad r.props.length c, .int .i64 r.object, .int .i64 r.at_, .int .i64 r.many, kv, dv] 26)] :: As) ∧ Fr a 130 [(1, ptr b1), (2, .bool false), (3, .bool (behB nm)), (4, .bool (zFj r.snap)), (5, .bool z)]) ?_ ?_
    · skip
      refine zAb ?_
      refine zp E (by first | exact zAg (q := 2) E rfl rfl rfl | exact zAh (q := 2) E rfl rfl rfl) ?_; clear E a; intro a E
      refine zp E (by first | exact zAn E rfl rfl rfl (S.get (by repeat (first | exact pk1 | apply zAc))) rfl | exact zAj E rfl rfl rfl (by assumption)) ?_; clear E a; intro a E
      refine zp E (zDy E rfl rfl rfl) ?_; clear E a; intro a E
      refine zp E (zAe E rfl rfl) ?_; clear E a; intro a E
      refine zAr E (t := 32) rfl (fun hb32 => ?_) (fun hb32 => ?_)
      · have hb32n := hb32; replace hb32n := Nrm.nrm hb32n
        refine zy E hb32 (by first | exact zAg (q := 2) E rfl rfl rfl | exact zAh (q := 2) E rfl rfl rfl) ?_; clear E a; intro a E
        refine zy E hb32 (by first | exact zAn E rfl rfl rfl (S.get (by repeat (first | exact pk1 | apply zAc))) rfl | exact zAj E rfl rfl rfl (by assumption)) ?_; clear E a; intro a E
        refine zy E hb32 (zDx E rfl rfl rfl) ?_; clear E a; intro a E
        refine zp E (zAk E rfl rfl hb32 rfl) ?_; clear E a; intro a E
        refine zp E (zAe E rfl rfl) ?_; clear E a; intro a E
        refine zAr E (t := 37) rfl (fun hb37 => ?_) (fun hb37 => ?_)
        · have hb37n := hb37; replace hb37n := Nrm.nrm hb37n
          refine zy E hb37 (by first | exact zAg (q := 3) E rfl rfl rfl | exact zAh (q := 3) E rfl rfl rfl) ?_; clear E a; intro a E
          refine zy E hb37 (by first | exact zAn E rfl rfl rfl (S.get (by repeat (first | exact pk1 | apply zAc))) rfl | exact zAj E rfl rfl rfl (by assumption)) ?_; clear E a; intro a E
          refine zy E hb37 (zDy E rfl rfl rfl) ?_; clear E a; intro a E
          refine zp E (zAk E rfl rfl hb37 rfl) ?_; clear E a; intro a E
          refine zp E (zAe E rfl rfl) ?_; clear E a; intro a E
          refine zAr E (t := 42) rfl (fun hb42 => ?_) (fun hb42 => ?_)
          · have hb42n := hb42; replace hb42n := Nrm.nrm hb42n
            refine zy E hb42 (by first | exact zAg (q := 3) E rfl rfl rfl | exact zAh (q := 3) E rfl rfl rfl) ?_; clear E a; intro a E
            refine zy E hb42 (by first | exact zAn E rfl rfl rfl (S.get (by repeat (first | exact pk1 | apply zAc))) rfl | exact zAj E rfl rfl rfl (by assumption)) ?_; clear E a; intro a E
            refine zy E hb42 (zDx E rfl rfl rfl) ?_; clear E a; intro a E
            refine zp E (zAk E rfl rfl hb42 rfl) ?_; clear E a; intro a E
            refine zp E (zAe E rfl rfl) ?_; clear E a; intro a E
            refine zAr E (t := 47) rfl (fun hb47 => ?_) (fun hb47 => ?_)
            · have hb47n := hb47; replace hb47n := Nrm.nrm hb47n
              refine zy E hb47 (by first | exact zAg (q := 4) E rfl rfl rfl | exact zAh (q := 4) E rfl rfl rfl) ?_; clear E a; intro a E
              refine zy E hb47 (by first | exact zAn E rfl rfl rfl (S.get (by repeat (first | exact pk1 | apply zAc))) rfl | exact zAj E rfl rfl rfl (by assumption)) ?_; clear E a; intro a E
              refine zy E hb47 (zDy E rfl rfl rfl) ?_; clear E a; intro a E
              refine zp E (zAk E rfl rfl hb47 rfl) ?_; clear E a; intro a E
              refine zp E (zAe E rfl rfl) ?_; clear E a; intro a E
              refine zAr E (t := 52) rfl (fun hb52 => ?_) (fun hb52 => ?_)
              · have hb52n := hb52; replace hb52n := Nrm.nrm hb52n
                refine zy E hb52 (by first | exact zAg (q := 4) E rfl rfl rfl | exact zAh (q := 4) E rfl rfl rfl) ?_; clear E a; intro a E
                refine zy E hb52 (by first | exact zAn E rfl rfl rfl (S.get (by repeat (first | exact pk1 | apply zAc))) rfl | exact zAj E rfl rfl rfl (by assumption)) ?_; clear E a; intro a E
                refine zy E hb52 (zDx E rfl rfl rfl) ?_; clear E a; intro a E
                refine zp E (zAk E rfl rfl hb52 rfl) ?_; clear E a; intro a E
                refine zp E (zAd E rfl rfl) ?_; clear E a; intro a E
                refine wpList_nil ?_
                refine zAv ?_
                exact ⟨_, ⟨fun q => by first | omega | (simp only [decide_eq_true_eq] at q; omega) | (simp at q; omega) | exact Bool.noConfusion q, fun q => by first | rfl | (simp only [decide_eq_true_eq]; omega) | (exfalso; omega) | (simp; omega)⟩, S, E.keep (zAa rfl (zAa rfl (zAa rfl (zAa rfl (zAa rfl zAm)))))⟩
              · have hb52n := hb52; replace hb52n := Nrm.nrm hb52n
                iterate 3 (refine zn E hb52 ?_; clear E a; intro a E)
                refine zp E (zAi E rfl rfl hb52 rfl) ?_; clear E a; intro a E
                refine zp E (zAd E rfl rfl) ?_; clear E a; intro a E
                refine wpList_nil ?_
                refine zAv ?_
                exact ⟨_, ⟨fun q => by first | omega | (simp only [decide_eq_true_eq] at q; omega) | (simp at q; omega) | exact Bool.noConfusion q, fun q => by first | rfl | (simp only [decide_eq_true_eq]; omega) | (exfalso; omega) | (simp; omega)⟩, S, E.keep (zAa rfl (zAa rfl (zAa rfl (zAa rfl (zAa rfl zAm)))))⟩
            · have hb47n := hb47; replace hb47n := Nrm.nrm hb47n
              iterate 3 (refine zn E hb47 ?_; clear E a; intro a E)
              refine zp E (zAi E rfl rfl hb47 rfl) ?_; clear E a; intro a E
              refine zp E (zAe E rfl rfl) ?_; clear E a; intro a E
              iterate 3 (refine zn E rfl ?_; clear E a; intro a E)
              refine zp E (zAi E rfl rfl rfl rfl) ?_; clear E a; intro a E
              refine zp E (zAd E rfl rfl) ?_; clear E a; intro a E
              refine wpList_nil ?_
              refine zAv ?_
              exact ⟨_, ⟨fun q => by first | omega | (simp only [decide_eq_true_eq] at q; omega) | (simp at q; omega) | exact Bool.noConfusion q, fun q => by first | rfl | (simp only [decide_eq_true_eq]; omega) | (exfalso; omega) | (simp; omega)⟩, S, E.keep (zAa rfl (zAa rfl (zAa rfl (zAa rfl (zAa rfl zAm)))))⟩
          · have hb42n := hb42; replace hb42n := Nrm.nrm hb42n
            iterate 3 (refine zn E hb42 ?_; clear E a; intro a E)
            refine zp E (zAi E rfl rfl hb42 rfl) ?_; clear E a; intro a E
            refine zp E (zAe E rfl rfl) ?_; clear E a; intro a E
            iterate 3 (refine zn E rfl ?_; clear E a; intro a E)
            refine zp E (zAi E rfl rfl rfl rfl) ?_; clear E a; intro a E
            refine zp E (zAe E rfl rfl) ?_; clear E a; intro a E
            iterate 3 (refine zn E rfl ?_; clear E a; intro a E)
            refine zp E (zAi E rfl rfl rfl rfl) ?_; clear E a; intro a E
            refine zp E (zAd E rfl rfl) ?_; clear E a; intro a E
            refine wpList_nil ?_
            refine zAv ?_
            exact ⟨_, ⟨fun q => by first | omega | (simp only [decide_eq_true_eq] at q; omega) | (simp at q; omega) | exact Bool.noConfusion q, fun q => by first | rfl | (simp only [decide_eq_true_eq]; omega) | (exfalso; omega) | (simp; omega)⟩, S, E.keep (zAa rfl (zAa rfl (zAa rfl (zAa rfl (zAa rfl zAm)))))⟩
        · have hb37n := hb37; replace hb37n := Nrm.nrm hb37n
          iterate 3 (refine zn E hb37 ?_; clear E a; intro a E)
          refine zp E (zAi E rfl rfl hb37 rfl) ?_; clear E a; intro a E
          refine zp E (zAe E rfl rfl) ?_; clear E a; intro a E
          iterate 3 (refine zn E rfl ?_; clear E a; intro a E)
          refine zp E (zAi E rfl rfl rfl rfl) ?_; clear E a; intro a E
          refine zp E (zAe E rfl rfl) ?_; clear E a; intro a E
          iterate 3 (refine zn E rfl ?_; clear E a; intro a E)
          refine zp E (zAi E rfl rfl rfl rfl) ?_; clear E a; intro a E
          refine zp E (zAe E rfl rfl) ?_; clear E a; intro a E
          iterate 3 (refine zn E rfl ?_; clear E a; intro a E)
          refine zp E (zAi E rfl rfl rfl rfl) ?_; clear E a; intro a E
          refine zp E (zAd E rfl rfl) ?_; clear E a; intro a E
          refine wpList_nil ?_
          refine zAv ?_
          exact ⟨_, ⟨fun q => by first | omega | (simp only [decide_eq_true_eq] at q; omega) | (simp at q; omega) | exact Bool.noConfusion q, fun q => by first | rfl | (simp only [decide_eq_true_eq]; omega) | (exfalso; omega) | (simp; omega)⟩, S, E.keep (zAa rfl (zAa rfl (zAa rfl (zAa rfl (zAa rfl zAm)))))⟩
      · have hb32n := hb32; replace hb32n := Nrm.nrm hb32n
        iterate 3 (refine zn E hb32 ?_; clear E a; intro a E)
        refine zp E (zAi E rfl rfl hb32 rfl) ?_; clear E a; intro a E
        refine zp E (zAe E rfl rfl) ?_; clear E a; intro a E
        iterate 3 (refine zn E rfl ?_; clear E a; intro a E)
        refine zp E (zAi E rfl rfl rfl rfl) ?_; clear E a; intro a E
        refine zp E (zAe E rfl rfl) ?_; clear E a; intro a E
        iterate 3 (refine zn E rfl ?_; clear E a; intro a E)
        refine zp E (zAi E rfl rfl rfl rfl) ?_; clear E a; intro a E
        refine zp E (zAe E rfl rfl) ?_; clear E a; intro a E
        iterate 3 (refine zn E rfl ?_; clear E a; intro a E)
        refine zp E (zAi E rfl rfl rfl rfl) ?_; clear E a; intro a E
        refine zp E (zAe E rfl rfl) ?_; clear E a; intro a E
        iterate 3 (refine zn E rfl ?_; clear E a; intro a E)
        refine zp E (zAi E rfl rfl rfl rfl) ?_; clear E a; intro a E
        refine zp E (zAd E rfl rfl) ?_; clear E a; intro a E
        refine wpList_nil ?_
        refine zAv ?_
        exact ⟨_, ⟨fun q => by first | omega | (simp only [decide_eq_true_eq] at q; omega) | (simp at q; omega) | exact Bool.noConfusion q, fun q => by first | rfl | (simp only [decide_eq_true_eq]; omega) | (exfalso; omega) | (simp; omega)⟩, S, E.keep (zAa rfl (zAa rfl (zAa rfl (zAa rfl (zAa rfl zAm)))))⟩
    · clear E S a; intro a w J; obtain ⟨z1, hz1, S, E⟩ := J
      refine zAf hK ?_; clear hK; clear K
      refine wp_seq_k ?_; intro K hK
      refine zEc (fun (a : Act) (w' : World) => ∃ z, (z = true ↔ (r.origin = 0 ∨ (r.origin = 1 ∧ 0 < r.frm))) ∧ St w0 As w' ([(b1, cel [.int .i64 r.kind, str nm, .int .i64 r.typ, .int .i64 r.frm, .int .i64 r.guid, .int .i64 r.origin, str r.snap, .slice ad r.props.length c, .int .i64 r.object, .int .i64 r.at_, .int .i64 r.many, kv, dv] 26)] :: As) ∧ Fr a 130 [(1, ptr b1), (2, .bool false), (3, .bool (behB nm)), (4, .bool (zFj r.snap)), (5, .bool z1), (6, .bool z)]) ?_ ?_
      · skip
        refine zAb ?_
        refine zp E (by first | exact zAg (q := 5) E rfl rfl rfl | exact zAh (q := 5) E rfl rfl rfl) ?_; clear E a; intro a E
        refine zp E (by first | exact zAn E rfl rfl rfl (S.get (by repeat (first | exact pk1 | apply zAc))) rfl | exact zAj E rfl rfl rfl (by assumption)) ?_; clear E a; intro a E
        refine zp E (by first | exact zCc E rfl rfl rfl | exact zAs E rfl rfl rfl rfl | exact zBb E rfl rfl rfl rfl | exact zAt E rfl rfl rfl) ?_; clear E a; intro a E
        refine zp E (zAe E rfl rfl) ?_; clear E a; intro a E
        refine zAr E (t := 60) rfl (fun hb60 => ?_) (fun hb60 => ?_)
        · have hb60n := hb60; replace hb60n := Nrm.nrm hb60n
          iterate 4 (refine zn E hb60 ?_; clear E a; intro a E)
          iterate 3 (refine zu E ?_; clear E a; intro a E)
          refine zn E hb60 ?_; clear E a; intro a E
          refine zp E (zAk E rfl rfl hb60 rfl) ?_; clear E a; intro a E
          refine zp E (zAd E rfl rfl) ?_; clear E a; intro a E
          refine wpList_nil ?_
          refine zAv ?_
          exact ⟨_, ⟨fun q => by first | omega | (simp only [decide_eq_true_eq] at q; omega) | (simp at q; omega) | exact Bool.noConfusion q, fun q => by first | rfl | (simp only [decide_eq_true_eq]; omega) | (exfalso; omega) | (simp; omega)⟩, S, E.keep (zAa rfl (zAa rfl (zAa rfl (zAa rfl (zAa rfl (zAa rfl zAm))))))⟩
        · have hb60n := hb60; replace hb60n := Nrm.nrm hb60n
          refine zy E hb60 (by first | exact zAg (q := 5) E rfl rfl rfl | exact zAh (q := 5) E rfl rfl rfl) ?_; clear E a; intro a E
          refine zy E hb60 (by first | exact zAn E rfl rfl rfl (S.get (by repeat (first | exact pk1 | apply zAc))) rfl | exact zAj E rfl rfl rfl (by assumption)) ?_; clear E a; intro a E
          refine zy E hb60 (by first | exact zCc E rfl rfl rfl | exact zAs E rfl rfl rfl rfl | exact zBb E rfl rfl rfl rfl | exact zAt E rfl rfl rfl) ?_; clear E a; intro a E
          refine zy E hb60 (zAe E rfl rfl) ?_; clear E a; intro a E
          refine zAr E (t := 64) rfl (fun hb64 => ?_) (fun hb64 => ?_)
          · have hb64n := hb64; replace hb64n := Nrm.nrm hb64n
            refine zy E hb64 (by first | exact zAg (q := 3) E rfl rfl rfl | exact zAh (q := 3) E rfl rfl rfl) ?_; clear E a; intro a E
            refine zy E hb64 (by first | exact zAn E rfl rfl rfl (S.get (by repeat (first | exact pk1 | apply zAc))) rfl | exact zAj E rfl rfl rfl (by assumption)) ?_; clear E a; intro a E
            refine zy E hb64 (zDt E rfl rfl rfl) ?_; clear E a; intro a E
            refine zy E hb60 (zAk E rfl rfl hb64 rfl) ?_; clear E a; intro a E
            refine zp E (zAi E rfl rfl hb60 rfl) ?_; clear E a; intro a E
            refine zp E (zAd E rfl rfl) ?_; clear E a; intro a E
            refine wpList_nil ?_
            refine zAv ?_
            exact ⟨_, ⟨fun q => by first | omega | (simp only [decide_eq_true_eq] at q; omega) | (simp at q; omega) | exact Bool.noConfusion q, fun q => by first | rfl | (simp only [decide_eq_true_eq]; omega) | (exfalso; omega) | (simp; omega)⟩, S, E.keep (zAa rfl (zAa rfl (zAa rfl (zAa rfl (zAa rfl (zAa rfl zAm))))))⟩
          · have hb64n := hb64; replace hb64n := Nrm.nrm hb64n
            iterate 3 (refine zn E hb64 ?_; clear E a; intro a E)
            refine zy E hb60 (zAi E rfl rfl hb64 rfl) ?_; clear E a; intro a E
            refine zp E (zAi E rfl rfl hb60 rfl) ?_; clear E a; intro a E
            refine zp E (zAd E rfl rfl) ?_; clear E a; intro a E
            refine wpList_nil ?_
            refine zAv ?_
            exact ⟨_, ⟨fun q => by first | omega | (simp only [decide_eq_true_eq] at q; omega) | (simp at q; omega) | exact Bool.noConfusion q, fun q => by first | rfl | (simp only [decide_eq_true_eq]; omega) | (exfalso; omega) | (simp; omega)⟩, S, E.keep (zAa rfl (zAa rfl (zAa rfl (zAa rfl (zAa rfl (zAa rfl zAm))))))⟩
      · clear E S a; intro a w J; obtain ⟨z2, hz2, S, E⟩ := J
        refine zAf hK ?_; clear hK; clear K
        iterate 2 (refine wp_seq_k ?_; intro K hK)
        refine zEc (fun (a : Act) (w' : World) => ∃ z, (z = true ↔ ¬ (behB nm = true ∧ zFj r.snap = true ∧ z1 = true ∧ z2 = true ∧ r.props.length ≤ 12)) ∧ St w0 As w' ([(b1, cel [.int .i64 r.kind, str nm, .int .i64 r.typ, .int .i64 r.frm, .int .i64 r.guid, .int .i64 r.origin, str r.snap, .slice ad r.props.length c, .int .i64 r.object, .int .i64 r.at_, .int .i64 r.many, kv, dv] 26)] :: As) ∧ Fr a 130 [(1, ptr b1), (2, .bool false), (89, .bool z)]) ?_ ?_
        · skip
          refine zAb ?_
          refine zp E (zAe E rfl rfl) ?_; clear E a; intro a E
          refine zp E (zDe E rfl rfl) ?_; clear E a; intro a E
          refine zp E (zAe E rfl rfl) ?_; clear E a; intro a E
          refine zAr E (t := 72) rfl (fun hb72 => ?_) (fun hb72 => ?_)
          · have hb72n := hb72; replace hb72n := Nrm.nrm hb72n
            iterate 2 (refine zn E hb72 ?_; clear E a; intro a E)
            refine zp E (zAk E rfl rfl hb72 rfl) ?_; clear E a; intro a E
            refine zp E (zAe E rfl rfl) ?_; clear E a; intro a E
            iterate 2 (refine zn E rfl ?_; clear E a; intro a E)
            refine zp E (zAk E rfl rfl rfl rfl) ?_; clear E a; intro a E
            refine zp E (zAe E rfl rfl) ?_; clear E a; intro a E
            iterate 2 (refine zn E rfl ?_; clear E a; intro a E)
            refine zp E (zAk E rfl rfl rfl rfl) ?_; clear E a; intro a E
            refine zp E (zAe E rfl rfl) ?_; clear E a; intro a E
            iterate 4 (refine zn E rfl ?_; clear E a; intro a E)
            refine zp E (zAk E rfl rfl rfl rfl) ?_; clear E a; intro a E
            refine wpList_nil ?_
            refine zAv ?_
            exact ⟨_, by clear S E hz1 hz2 hnm hcells hR hs H; simp_all <;> omega, S, E.keep (zAa rfl (zAa rfl (zAa rfl zAm)))⟩
          · have hb72n := hb72; replace hb72n := Nrm.nrm hb72n
            refine zy E hb72 (zAe E rfl rfl) ?_; clear E a; intro a E
            refine zy E hb72 (zDe E rfl rfl) ?_; clear E a; intro a E
            refine zp E (zAi E rfl rfl hb72 rfl) ?_; clear E a; intro a E
            refine zp E (zAe E rfl rfl) ?_; clear E a; intro a E
            refine zAr E (t := 76) rfl (fun hb76 => ?_) (fun hb76 => ?_)
            · have hb76n := hb76; replace hb76n := Nrm.nrm hb76n
              iterate 2 (refine zn E hb76 ?_; clear E a; intro a E)
              refine zp E (zAk E rfl rfl hb76 rfl) ?_; clear E a; intro a E
              refine zp E (zAe E rfl rfl) ?_; clear E a; intro a E
              iterate 2 (refine zn E rfl ?_; clear E a; intro a E)
              refine zp E (zAk E rfl rfl rfl rfl) ?_; clear E a; intro a E
              refine zp E (zAe E rfl rfl) ?_; clear E a; intro a E
              iterate 4 (refine zn E rfl ?_; clear E a; intro a E)
              refine zp E (zAk E rfl rfl rfl rfl) ?_; clear E a; intro a E
              refine wpList_nil ?_
              refine zAv ?_
              exact ⟨_, by clear S E hz1 hz2 hnm hcells hR hs H; simp_all <;> omega, S, E.keep (zAa rfl (zAa rfl (zAa rfl zAm)))⟩
            · have hb76n := hb76; replace hb76n := Nrm.nrm hb76n
              refine zy E hb76 (zAe E rfl rfl) ?_; clear E a; intro a E
              refine zy E hb76 (zDe E rfl rfl) ?_; clear E a; intro a E
              refine zp E (zAi E rfl rfl hb76 rfl) ?_; clear E a; intro a E
              refine zp E (zAe E rfl rfl) ?_; clear E a; intro a E
              refine zAr E (t := 80) rfl (fun hb80 => ?_) (fun hb80 => ?_)
              · have hb80n := hb80; replace hb80n := Nrm.nrm hb80n
                iterate 2 (refine zn E hb80 ?_; clear E a; intro a E)
                refine zp E (zAk E rfl rfl hb80 rfl) ?_; clear E a; intro a E
                refine zp E (zAe E rfl rfl) ?_; clear E a; intro a E
                iterate 4 (refine zn E rfl ?_; clear E a; intro a E)
                refine zp E (zAk E rfl rfl rfl rfl) ?_; clear E a; intro a E
                refine wpList_nil ?_
                refine zAv ?_
                exact ⟨_, by clear S E hz1 hz2 hnm hcells hR hs H; simp_all <;> omega, S, E.keep (zAa rfl (zAa rfl (zAa rfl zAm)))⟩
              · have hb80n := hb80; replace hb80n := Nrm.nrm hb80n
                refine zy E hb80 (zAe E rfl rfl) ?_; clear E a; intro a E
                refine zy E hb80 (zDe E rfl rfl) ?_; clear E a; intro a E
                refine zp E (zAi E rfl rfl hb80 rfl) ?_; clear E a; intro a E
                refine zp E (zAe E rfl rfl) ?_; clear E a; intro a E
                refine zAr E (t := 84) rfl (fun hb84 => ?_) (fun hb84 => ?_)
                · have hb84n := hb84; replace hb84n := Nrm.nrm hb84n
                  iterate 4 (refine zn E hb84 ?_; clear E a; intro a E)
                  refine zp E (zAk E rfl rfl hb84 rfl) ?_; clear E a; intro a E
                  refine wpList_nil ?_
                  refine zAv ?_
                  exact ⟨_, by clear S E hz1 hz2 hnm hcells hR hs H; simp_all <;> omega, S, E.keep (zAa rfl (zAa rfl (zAa rfl zAm)))⟩
                · have hb84n := hb84; replace hb84n := Nrm.nrm hb84n
                  refine zy E hb84 (by first | exact zAg (q := 7) E rfl rfl rfl | exact zAh (q := 7) E rfl rfl rfl) ?_; clear E a; intro a E
                  refine zy E hb84 (by first | exact zAn E rfl rfl rfl (S.get (by repeat (first | exact pk1 | apply zAc))) rfl | exact zAj E rfl rfl rfl (by assumption)) ?_; clear E a; intro a E
                  refine zy E hb84 (by first | exact zBu E rfl rfl rfl | exact zAx E rfl rfl rfl | exact zAq E rfl rfl rfl) ?_; clear E a; intro a E
                  refine zy E hb84 (zDt E rfl rfl rfl) ?_; clear E a; intro a E
                  refine zp E (zAi E rfl rfl hb84 rfl) ?_; clear E a; intro a E
                  refine wpList_nil ?_
                  refine zAv ?_
                  exact ⟨_, by clear S E hz1 hz2 hnm hcells hR hs H; simp_all <;> omega, S, E.keep (zAa rfl (zAa rfl (zAa rfl zAm)))⟩
        · clear E S a; intro a w J; obtain ⟨z3, hz3, S, E⟩ := J
          refine zAf hK ?_; clear hK; clear K
          refine zBh E rfl (fun hb => ?_) (fun hb => ?_)
          · replace hb := Nrm.nrm hb
            refine wp_seq_k ?_; intro K hK
            refine zAb ?_
            refine zp E (zAd E rfl rfl) ?_; clear E a; intro a E
            refine wpList_nil ?_
            refine zAf hK ?_; clear hK; clear K
            refine wp_ret ?_
            refine zAy ?_; clear hK; clear K
            refine ret1 E rfl rfl ?_
            refine ⟨_, rfl, ?_, S.tail.tr⟩
            rw [beg_no]
            rintro ⟨q1, q2, q3, q4, q5, q6, q7⟩
            exact hz3.1 hb ⟨by rw [hnm]; exact q1, q6, hz1.2 ⟨q2, q3, q4⟩, hz2.2 q5, ((zGx _).1 q7).1⟩
          · replace hb := Nrm.nrm hb
            refine wp_skip ?_
            refine zAf hK ?_; clear hK; clear K
            iterate 2 (refine wp_seq_k ?_; intro K hK)
            have hok : behB nm = true ∧ zFj r.snap = true ∧ z1 = true ∧ z2 = true ∧ r.props.length ≤ 12 := Classical.byContradiction fun q => by rw [hz3.2 q] at hb; cases hb
            refine zAb ?_
            refine zp E (zAd E rfl rfl) ?_; clear E a; intro a E
            refine wpList_nil ?_
            refine zAf hK ?_; clear hK; clear K
            refine wp_block ?_
            refine wp_loop_ghost (fun (m : Nat) (a : Act) (w' : World) => ∃ i : Nat, m = r.props.length - i ∧ i ≤ r.props.length ∧ (∀ k, ∀ hk : k < r.props.length, k < i → zHm r.props k hk) ∧ St w0 As w' ([(b1, cel [.int .i64 r.kind, str nm, .int .i64 r.typ, .int .i64 r.frm, .int .i64 r.guid, .int .i64 r.origin, str r.snap, .slice ad r.props.length c, .int .i64 r.object, .int .i64 r.at_, .int .i64 r.many, kv, dv] 26)] :: As) ∧ Fr a 130 [(1, ptr b1), (2, .bool false), (7, .int .i64 i)]) (r.props.length) ?_ ?_
            · exact ⟨0, by omega, by omega, by intro k _ h; omega, S, E.keep (zAa rfl (zAa rfl (zAa rfl zAm)))⟩
            clear E; clear a; (try clear S); rintro m a w ⟨i, rfl, hi, hpk, S, E⟩
            iterate 2 (refine wp_seq_k ?_; intro K hK)
            refine zAb ?_
            refine zp E (zAe E rfl rfl) ?_; clear E a; intro a E
            refine zp E (by first | exact zAg (q := 7) E rfl rfl rfl | exact zAh (q := 7) E rfl rfl rfl) ?_; clear E a; intro a E
            refine zp E (by first | exact zAn E rfl rfl rfl (S.get (by repeat (first | exact pk1 | apply zAc))) rfl | exact zAj E rfl rfl rfl (by assumption)) ?_; clear E a; intro a E
            refine zp E (by first | exact zBu E rfl rfl rfl | exact zAx E rfl rfl rfl | exact zAq E rfl rfl rfl) ?_; clear E a; intro a E
            refine zp E (zCk E rfl rfl rfl) ?_; clear E a; intro a E
            refine wpList_nil ?_
            refine zAf hK ?_; clear hK; clear K
            refine zBh E rfl (fun hb => ?_) (fun hb => ?_)
            · replace hb := Nrm.nrm hb
              refine wp_skip ?_
              refine zAf hK ?_; clear hK; clear K
              refine wp_seq_k ?_; intro K hK
              refine wp_block ?_
              refine wp_seq_k ?_; intro K hK
              have hil : i < r.props.length := by omega
              obtain ⟨b, off, rfl⟩ := hp.addr (by omega)
              have hsi := hs.prop _ (List.getElem_mem hil)
              have hcl := hp.elem (lay := Prp.lay) Prp.lay_len (S.stab.at (List.Mem.tail _ hC)) hil
              obtain ⟨p, hpe⟩ : ∃ p, p = r.props[i] := ⟨_, rfl⟩
              rw [← hpe] at hsi hcl
              obtain ⟨pn, pvl⟩ := p
              simp only at hsi
              refine zAb ?_
              refine zp E (by first | exact zAg (q := 7) E rfl rfl rfl | exact zAh (q := 7) E rfl rfl rfl) ?_; clear E a; intro a E
              refine zp E (by first | exact zAn E rfl rfl rfl (S.get (by repeat (first | exact pk1 | apply zAc))) rfl | exact zAj E rfl rfl rfl (by assumption)) ?_; clear E a; intro a E
              refine zp E (zAe E rfl rfl) ?_; clear E a; intro a E
              refine zp E (by first | exact zBo E rfl rfl rfl rfl rfl rfl (by omega) | exact zBq E rfl rfl rfl rfl rfl rfl (by omega) | exact zBd E rfl rfl rfl rfl rfl rfl (by omega)) ?_; clear E a; intro a E
              refine zp E (zEh (vs := [_, _]) E rfl rfl rfl rfl (hcl)) ?_; clear E a; intro a E
              refine zAo rfl (zBy E S rfl rfl (by decide) rfl rfl rfl ?_); clear E S a; intro a w b8 E S
              refine zAo rfl (zBk E S rfl rfl rfl rfl (by simp [Value.oneCell']) rfl (by repeat (first | exact pk1 | apply zAc)) (by simp) ?_); clear E S a; intro a w E S; simp only [List.take_succ_cons, List.take_zero, List.drop_succ_cons, List.drop_zero, List.cons_append, List.nil_append, List.append_nil, List.length_cons, List.length_nil, Nat.zero_add, Nat.add_zero] at S
              refine wpList_nil ?_
              refine zAf hK ?_; clear hK; clear K
              refine wp_seq_k ?_; intro K hK
              refine zAb ?_
              refine zp E (by first | exact zAg (q := 0) E rfl rfl rfl | exact zAh (q := 0) E rfl rfl rfl) ?_; clear E a; intro a E
              refine zp E (by first | exact zAn E rfl rfl rfl (S.get (by repeat (first | exact pk1 | apply zAc))) rfl | exact zAj E rfl rfl rfl (by assumption)) ?_; clear E a; intro a E
              refine zAp E rfl rfl (by decide) rfl Tryz.func34 rfl (by kernel_rfl) rfl (zKr pn (by omega) _ _ S.hp) ?_
              rintro v104 w ⟨rfl, hT⟩; clear E a; intro a E
              have S := S.all hT
              refine zp E (zAd E rfl rfl) ?_; clear E a; intro a E
              refine wpList_nil ?_
              refine zAf hK ?_; clear hK; clear K
              refine wp_seq_k ?_; intro K hK
              refine zAb ?_
              refine zp E (by first | exact zAg (q := 1) E rfl rfl rfl | exact zAh (q := 1) E rfl rfl rfl) ?_; clear E a; intro a E
              refine zp E (by first | exact zAn E rfl rfl rfl (S.get (by repeat (first | exact pk1 | apply zAc))) rfl | exact zAj E rfl rfl rfl (by assumption)) ?_; clear E a; intro a E
              refine zAp E rfl rfl (by decide) rfl Tryz.func80 rfl (by kernel_rfl) rfl (uvalue20_ret pvl (by omega) _ _ S.hp) ?_
              rintro v107 w ⟨rfl, hT⟩; clear E a; intro a E
              have S := S.all hT
              refine zp E (zAd E rfl rfl) ?_; clear E a; intro a E
              refine wpList_nil ?_
              refine zAf hK ?_; clear hK; clear K
              refine wp_seq_k ?_; intro K hK
              refine zEc (fun (a : Act) (w' : World) => ∃ z, (z = true ↔ ¬ zHm r.props i hil) ∧ St w0 As w' ([(b8, cel [str pn, str pvl] 70)] :: [(b1, cel [.int .i64 r.kind, str nm, .int .i64 r.typ, .int .i64 r.frm, .int .i64 r.guid, .int .i64 r.origin, str r.snap, .slice (some ⟨b, off, none⟩) r.props.length c, .int .i64 r.object, .int .i64 r.at_, .int .i64 r.many, kv, dv] 26)] :: As) ∧ Fr a 130 [(1, ptr b1), (2, .bool false), (7, .int .i64 i), (129, .bool z)]) ?_ ?_
              · skip
                refine zDp S (.ofL [(0, 0), (1, 0), (2, 0), (3, 0), (4, 0), (5, 0), (6, 0), (7, 0), (8, 0), (9, 0), (10, 0), (11, 0), (12, 0), (13, 0), (14, 0), (15, 0), (16, 0), (17, 0), (18, 0), (19, 0), (20, 0), (21, 0)]) [C, [(b8, cel [str pn, str pvl] 70)], [(b1, cel [.int .i64 r.kind, str nm, .int .i64 r.typ, .int .i64 r.frm, .int .i64 r.guid, .int .i64 r.origin, str r.snap, .slice (some ⟨b, off, none⟩) r.props.length c, .int .i64 r.object, .int .i64 r.at_, .int .i64 r.many, kv, dv] 26)]] (fun h => h.sub (by first | (simp; done) | (simp +contextual; done) | (simp [*]; done))) (by kernel_rfl) (by kernel_rfl) ?_
                clear S; intro w S
                refine zm E rfl (fun w h => zAe E rfl rfl) ?_; clear E a; intro a E
                refine zm E rfl (fun w h => zDe E rfl rfl) ?_; clear E a; intro a E
                refine zm E rfl (fun w h => zAe E rfl rfl) ?_; clear E a; intro a E
                refine zAr E (t := 110) rfl (fun hb110 => ?_) (fun hb110 => ?_)
                · have hb110n := hb110; replace hb110n := Nrm.nrm hb110n
                  iterate 2 (refine zCa E rfl rfl rfl rfl rfl hb110 rfl (by decide) ?_; clear E a; intro a E)
                  refine zm E rfl (fun w h => zAk E rfl rfl hb110 rfl) ?_; clear E a; intro a E
                  refine zm E rfl (fun w h => zAe E rfl rfl) ?_; clear E a; intro a E
                  iterate 3 (refine zCa E rfl rfl rfl rfl rfl rfl rfl (by decide) ?_; clear E a; intro a E)
                  iterate 10 (refine zDl E rfl rfl rfl rfl rfl rfl (by decide) ?_; clear E a; intro a E)
                  refine zCa E rfl rfl rfl rfl rfl rfl rfl (by decide) ?_; clear E a; intro a E
                  refine zm E rfl (fun w h => zAk E rfl rfl rfl rfl) ?_; clear E a; intro a E
                  refine zBz ?_
                  refine zAv ?_
                  refine ⟨_, ?_, S, E.keep (zAa rfl (zAa rfl (zAa rfl (zAa rfl zAm))))⟩
                  clear S E hcl hR hs H hz1 hz2 hz3 hcells
                  unfold zHm
                  rw [← hpe]
                  first
                    | (simp_all; done)
                    | (clear hT hp hpk; simp_all <;> (intro q1 q2 q3; exfalso; rcases hb114 with (e | e) | e; subst e; simp at q1; omega; rw [e] at q3; cases q3))
                · have hb110n := hb110; replace hb110n := Nrm.nrm hb110n
                  refine zAz E rfl rfl rfl rfl rfl hb110 rfl (by decide) (fun w h => zAe E rfl rfl) ?_; clear E a; intro a E
                  refine zAz E rfl rfl rfl rfl rfl hb110 rfl (by decide) (fun w h => zDe E rfl rfl) ?_; clear E a; intro a E
                  refine zm E rfl (fun w h => zAi E rfl rfl hb110 rfl) ?_; clear E a; intro a E
                  refine zm E rfl (fun w h => zAe E rfl rfl) ?_; clear E a; intro a E
                  refine zAr E (t := 114) rfl (fun hb114 => ?_) (fun hb114 => ?_)
                  · have hb114n := hb114; replace hb114n := Nrm.nrm hb114n
                    iterate 3 (refine zCa E rfl rfl rfl rfl rfl hb114 rfl (by decide) ?_; clear E a; intro a E)
                    iterate 10 (refine zDl E rfl rfl rfl rfl rfl rfl (by decide) ?_; clear E a; intro a E)
                    refine zCa E rfl rfl rfl rfl rfl hb114 rfl (by decide) ?_; clear E a; intro a E
                    refine zm E rfl (fun w h => zAk E rfl rfl hb114 rfl) ?_; clear E a; intro a E
                    refine zBz ?_
                    refine zAv ?_
                    refine ⟨_, ?_, S, E.keep (zAa rfl (zAa rfl (zAa rfl (zAa rfl zAm))))⟩
                    clear S E hcl hR hs H hz1 hz2 hz3 hcells
                    unfold zHm
                    rw [← hpe]
                    first
                      | (simp_all; done)
                      | (clear hT hp hpk; simp_all <;> (intro q1 q2 q3; exfalso; rcases hb114 with (e | e) | e; subst e; simp at q1; omega; rw [e] at q3; cases q3))
                  · have hb114n := hb114; replace hb114n := Nrm.nrm hb114n
                    refine zAz E rfl rfl rfl rfl rfl hb114 rfl (by decide) (fun w h => zAe E rfl rfl) ?_; clear E a; intro a E
                    refine zAz E rfl rfl rfl rfl rfl hb114 rfl (by decide) (fun w h => zDt E rfl rfl rfl) ?_; clear E a; intro a E
                    refine zAz E rfl rfl rfl rfl rfl hb114 rfl (by decide) (fun w h => zAe E rfl rfl) ?_; clear E a; intro a E
                    refine zAr E (t := 117) rfl (fun hb117 => ?_) (fun hb117 => ?_)
                    · have hb117n := hb117; replace hb117n := Nrm.nrm hb117n
                      refine zAz E rfl rfl rfl rfl rfl hb117 rfl (by decide) (fun w h => by first | exact zAg (q := 7) E rfl rfl rfl | exact zAh (q := 7) E rfl rfl rfl) ?_; clear E a; intro a E
                      refine zAz E rfl rfl rfl rfl rfl hb117 rfl (by decide) (fun w h => by first | exact zAn E rfl rfl rfl (h.one (by repeat (first | exact mm1 | assumption | apply List.Mem.tail))) rfl | exact zAj E rfl rfl rfl (by assumption)) ?_; clear E a; intro a E
                      refine zAz E rfl rfl rfl rfl rfl hb117 rfl (by decide) (fun w h => zAe E rfl rfl) ?_; clear E a; intro a E
                      refine zAz E rfl rfl rfl rfl rfl hb117 rfl (by decide) (fun w h => zEe E rfl rfl rfl (by first | exact zFu (y := 1) (by omega) (by omega) | exact w_in (by omega) | exact zBw (by omega) | exact rfl)) ?_; clear E a; intro a E
                      refine zAz E rfl rfl rfl rfl rfl hb117 rfl (by decide) (fun w h => by first | exact zBo E rfl rfl rfl rfl rfl rfl (by omega) | exact zBq E rfl rfl rfl rfl rfl rfl (by omega) | exact zBd E rfl rfl rfl rfl rfl rfl (by omega)) ?_; clear E a; intro a E
                      refine zAz E rfl rfl rfl rfl rfl hb117 rfl (by decide) (fun w h => by first | exact zAg (q := 0) E rfl rfl rfl | exact zAh (q := 0) E rfl rfl rfl) ?_; clear E a; intro a E
                      refine zAz E rfl rfl rfl rfl rfl hb117 rfl (by decide) (fun w h => zAj E rfl rfl rfl (hp.elem (lay := Prp.lay) Prp.lay_len (h.at (by repeat (first | exact mm1 | assumption | apply List.Mem.tail))) (i := i - 1) (by omega) 0 _ rfl)) ?_; clear E a; intro a E
                      refine zAz E rfl rfl rfl rfl rfl hb117 rfl (by decide) (fun w h => by first | exact zAg (q := 0) E rfl rfl rfl | exact zAh (q := 0) E rfl rfl rfl) ?_; clear E a; intro a E
                      refine zAz E rfl rfl rfl rfl rfl hb117 rfl (by decide) (fun w h => by first | exact zAn E rfl rfl rfl (h.one (by repeat (first | exact mm1 | assumption | apply List.Mem.tail))) rfl | exact zAj E rfl rfl rfl (by assumption)) ?_; clear E a; intro a E
                      refine zAz E rfl rfl rfl rfl rfl hb117 rfl (by decide) (fun w h => zIg E rfl rfl rfl) ?_; clear E a; intro a E
                      refine zAz E rfl rfl rfl rfl rfl hb114 rfl (by decide) (fun w h => zAk E rfl rfl hb117 rfl) ?_; clear E a; intro a E
                      refine zm E rfl (fun w h => zAi E rfl rfl hb114 rfl) ?_; clear E a; intro a E
                      refine zBz ?_
                      refine zAv ?_
                      refine ⟨_, ?_, S, E.keep (zAa rfl (zAa rfl (zAa rfl (zAa rfl zAm))))⟩
                      clear S E hcl hR hs H hz1 hz2 hz3 hcells
                      unfold zHm
                      rw [← hpe]
                      first
                        | (simp_all; done)
                        | (clear hT hp hpk; simp_all <;> (intro q1 q2 q3; exfalso; rcases hb114 with (e | e) | e; subst e; simp at q1; omega; rw [e] at q3; cases q3))
                    · have hb117n := hb117; replace hb117n := Nrm.nrm hb117n
                      iterate 10 (refine zCa E rfl rfl rfl rfl rfl hb117 rfl (by decide) ?_; clear E a; intro a E)
                      refine zAz E rfl rfl rfl rfl rfl hb114 rfl (by decide) (fun w h => zAi E rfl rfl hb117 rfl) ?_; clear E a; intro a E
                      refine zm E rfl (fun w h => zAi E rfl rfl hb114 rfl) ?_; clear E a; intro a E
                      refine zBz ?_
                      refine zAv ?_
                      refine ⟨_, ?_, S, E.keep (zAa rfl (zAa rfl (zAa rfl (zAa rfl zAm))))⟩
                      clear S E hcl hR hs H hz1 hz2 hz3 hcells
                      unfold zHm
                      rw [← hpe]
                      first
                        | (simp_all; done)
                        | (clear hT hp hpk; simp_all <;> (intro q1 q2 q3; exfalso; rcases hb114 with (e | e) | e; subst e; simp at q1; omega; rw [e] at q3; cases q3))
              · clear E S a; intro a w J; obtain ⟨z, hz, S, E⟩ := J
                refine zAf hK ?_; clear hK; clear K
                refine zBh E rfl (fun hb => ?_) (fun hb => ?_)
                · replace hb := Nrm.nrm hb
                  refine wp_seq_k ?_; intro K hK
                  refine zAb ?_
                  refine zp E (zAd E rfl rfl) ?_; clear E a; intro a E
                  refine wpList_nil ?_
                  refine zAf hK ?_; clear hK; clear K
                  refine wp_ret ?_
                  refine zCj ?_
                  refine zAy ?_; clear hK; clear K
                  refine zAy ?_
                  refine zCj ?_
                  refine zAy ?_; clear hK; clear K
                  refine ret1 E rfl rfl ?_
                  exact ⟨_, rfl, by rw [beg_no fun q => hz.1 hb (((zGx _).1 q.2.2.2.2.2.2).2 i hil)], S.tail2.tr⟩
                · replace hb := Nrm.nrm hb
                  refine wp_skip ?_
                  refine zBe ?_
                  refine zAf hK ?_; clear hK; clear K
                  refine zAb ?_
                  refine zp E (zAe E rfl rfl) ?_; clear E a; intro a E
                  refine zp E (zBt E rfl rfl rfl (by first | exact zCh (y := 1) (by omega) | exact w_in (by omega) | exact zBw (by omega) | exact rfl)) ?_; clear E a; intro a E
                  refine zp E (zAd E rfl rfl) ?_; clear E a; intro a E
                  refine wpList_nil ?_
                  refine zBj ?_
                  exact ⟨_, by omega, i + 1, rfl, by omega, zGc hpk hil (Classical.byContradiction fun q => by rw [hz.2 q] at hb; cases hb), S.tail, E.keep (zAa rfl (zAa rfl (zAa rfl zAm)))⟩
            · replace hb := Nrm.nrm hb
              refine wp_exit ?_
              refine zBa ?_; clear hK; clear K
              refine zBa ?_
              refine zCg ?_
              refine zAf hK ?_; clear hK; clear K
              refine wp_seq_k ?_; intro K hK
              refine zAb ?_
              refine zp E (zAd E rfl rfl) ?_; clear E a; intro a E
              refine wpList_nil ?_
              refine zAf hK ?_; clear hK; clear K
              refine wp_ret ?_
              refine ret1 E rfl rfl ?_
              obtain ⟨q1, q2, q3, q4, q5⟩ := hok
              obtain ⟨g1, g2, g3⟩ := hz1.1 q3
              refine ⟨_, rfl, ?_, S.tail.tr⟩
              rw [(zDw r).2 ⟨by rw [← hnm]; exact q1, g1, g2, g3, hz2.1 q4, q2, (zGx _).2 ⟨q5, fun k hk => hpk k hk (by omega)⟩⟩]
omit hR hs hC H in
theorem zLk {m : Nat} (h : zCs (zDr r) = true ↔ zFr r m = true) : zCs (zDr r) = zFr r m := by rw [Bool.eq_iff_iff]; exact h
omit hR hs hC H in
theorem ck1 (h : r.kind = 1) : ckB r = (zFr r 3 && (zFj r.name && decide (1 ≤ r.many ∧ r.many ≤ 120))) := by
  have e : zCs (zDr r) = zFr r 3 := zLk (by
    rw [bare1 h]
    simp [zCs, zFr, zIa, msk, zJf, List.range, List.range.loop, Nat.testBit, Nat.shiftRight_eq_div_pow, List.length_eq_zero_iff]
    clear h; grind)
  simp only [ckB, inK, mayK, h, e, may1]; simp [Bool.and_comm]
omit hR hs hC H in
theorem ck2 (h : r.kind = 2) : ckB r = (zFr r 253 && begB r) := by
  have e : zCs (zDr r) = zFr r 253 := zLk (by
    rw [bare2 h]
    simp [zCs, zFr, zIa, msk, zJf, List.range, List.range.loop, Nat.testBit, Nat.shiftRight_eq_div_pow, List.length_eq_zero_iff]
    clear h; grind)
  simp only [ckB, inK, mayK, h, e]; simp [Bool.and_comm]
omit hR hs hC H in
theorem ck3 (h : r.kind = 3) : ckB r = (zFr r 1024 && risB r.keep 1 1048576) := by
  have e : zCs (zDr r) = zFr r 1024 := zLk (by
    rw [bare3 h]
    simp [zCs, zFr, zIa, msk, zJf, List.range, List.range.loop, Nat.testBit, Nat.shiftRight_eq_div_pow, List.length_eq_zero_iff]
    clear h; grind)
  simp only [ckB, inK, mayK, h, e, may3]; simp [Bool.and_comm]
omit hR hs hC H in
theorem ck4 (h : r.kind = 4) : ckB r = (zFr r 1280 && may4 r) := by
  have e : zCs (zDr r) = zFr r 1280 := zLk (by
    rw [bare4 h]
    simp [zCs, zFr, zIa, msk, zJf, List.range, List.range.loop, Nat.testBit, Nat.shiftRight_eq_div_pow, List.length_eq_zero_iff]
    clear h; grind)
  simp only [ckB, inK, mayK, h, e]; simp [Bool.and_comm]
omit hR hs hC H in
theorem ck5 (h : r.kind = 5) : ckB r = (zFr r 2816 && may5 r) := by
  have e : zCs (zDr r) = zFr r 2816 := zLk (by
    rw [bare5 h]
    simp [zCs, zFr, zIa, msk, zJf, List.range, List.range.loop, Nat.testBit, Nat.shiftRight_eq_div_pow, List.length_eq_zero_iff]
    clear h; grind)
  simp only [ckB, inK, mayK, h, e]; simp [Bool.and_comm]
omit hR hs hC H in
theorem ck6 (h : r.kind = 6 ∨ r.kind = 7) : ckB r = (zFr r 2 && may6 r) := by
  have e : zCs (zDr r) = zFr r 2 := zLk (by
    rw [bare6 (by omega) (by omega) (by omega) (by omega) (by omega)]
    simp [zCs, zFr, zIa, msk, zJf, List.range, List.range.loop, Nat.testBit, Nat.shiftRight_eq_div_pow, List.length_eq_zero_iff]
    clear h; grind)
  rcases h with h | h <;> simp only [ckB, inK, mayK, h, e] <;> simp [Bool.and_comm]
omit hR hs hC H in
theorem ck0 (h : ¬ inK r.kind) : ckB r = false := by simp [ckB, h]
end
end Go.Proofs.YtbogecljkaimdaaGreatDoor
namespace Go.Proofs.YtbogecljkaimdaaGreatDoor
open Go.Sl
set_option maxRecDepth 10000
section
variable {C : zAw} {r : Rec} {pv kv dv : Value} (hR : RecR C r pv kv dv) (hs : Sml r) {As : List zAw} (hC : C ∈ As) (w0 : World) (H : Hp w0 As)
include hR hs hC H
set_option maxHeartbeats 1000000 in
theorem zLl : Ret Tryz.prog 15 #[.agg (r.cells pv kv dv).toArray] w0 fun u w' => u = .int .i64 (ckE r) ∧ Trs w0 w' As As := by
  have S := St.begin H
  have h1 := hs.name
  have h4 := hs.keep
  have h5 := hs.data
  obtain ⟨ad1, c1, rfl⟩ := hR.pr.slice
  obtain ⟨ad2, c2, rfl⟩ := hR.kr.slice
  obtain ⟨ad3, c3, rfl⟩ := hR.dr.slice
  refine zCu 115 Tryz.func15 rfl rfl (by decide) ?_; intro a E
  refine wp_seq_k ?_; intro K hK
  refine zAb ?_
  refine zAo rfl (zCm E S rfl rfl (by decide) rfl rfl ?_); clear E S a; intro a w b1 E S
  refine zp E (zAd E rfl rfl) ?_; clear E a; intro a E
  refine wpList_nil ?_
  refine zAf hK ?_; clear hK; clear K
  refine wp_seq_k ?_; intro K hK
  refine zAb ?_
  refine zp E (zAd E rfl rfl) ?_; clear E a; intro a E
  refine wpList_nil ?_
  refine zAf hK ?_; clear hK; clear K
  refine wp_seq_k ?_; intro K hK
  refine zEc (fun (a : Act) (w' : World) => ∃ z, z = decide (1 ≤ r.object ∧ r.object ≤ 1048576) ∧ St w0 As w' ([(b1, cel (r.cells (.slice ad1 r.props.length c1) (.slice ad2 r.keep.length c2) (.slice ad3 r.data.length c3)) 26)] :: As) ∧ Fr a 115 [(1, ptr b1), (2, .int .i64 0), (3, .bool false), (4, .bool z)]) ?_ ?_
  · skip
    refine zAb ?_
    refine zp E (by first | exact zAg (q := 8) E rfl rfl rfl | exact zAh (q := 8) E rfl rfl rfl) ?_; clear E a; intro a E
    refine zp E (by first | exact zAn E rfl rfl rfl (S.get (by repeat (first | exact pk1 | apply zAc))) rfl | exact zAj E rfl rfl rfl (by assumption)) ?_; clear E a; intro a E
    refine zp E (zDy E rfl rfl rfl) ?_; clear E a; intro a E
    refine zp E (zAe E rfl rfl) ?_; clear E a; intro a E
    refine zAr E (t := 8) rfl (fun hb8 => ?_) (fun hb8 => ?_)
    · have hb8n := hb8; replace hb8n := Nrm.nrm hb8n
      refine zy E hb8 (by first | exact zAg (q := 8) E rfl rfl rfl | exact zAh (q := 8) E rfl rfl rfl) ?_; clear E a; intro a E
      refine zy E hb8 (by first | exact zAn E rfl rfl rfl (S.get (by repeat (first | exact pk1 | apply zAc))) rfl | exact zAj E rfl rfl rfl (by assumption)) ?_; clear E a; intro a E
      refine zy E hb8 (zDx E rfl rfl rfl) ?_; clear E a; intro a E
      refine zp E (zAk E rfl rfl hb8 rfl) ?_; clear E a; intro a E
      refine zp E (zAd E rfl rfl) ?_; clear E a; intro a E
      refine wpList_nil ?_
      refine zAv ?_
      exact ⟨_, by rw [Bool.eq_iff_iff]; simp only [decide_eq_true_eq, Bool.false_eq_true, false_iff]; omega, S, E.keep (zAa rfl (zAa rfl (zAa rfl (zAa rfl zAm))))⟩
    · have hb8n := hb8; replace hb8n := Nrm.nrm hb8n
      iterate 3 (refine zn E hb8 ?_; clear E a; intro a E)
      refine zp E (zAi E rfl rfl hb8 rfl) ?_; clear E a; intro a E
      refine zp E (zAd E rfl rfl) ?_; clear E a; intro a E
      refine wpList_nil ?_
      refine zAv ?_
      exact ⟨_, by rw [Bool.eq_iff_iff]; simp only [decide_eq_true_eq, Bool.false_eq_true, false_iff]; omega, S, E.keep (zAa rfl (zAa rfl (zAa rfl (zAa rfl zAm))))⟩
  · clear E S a; intro a w J; obtain ⟨z0, hz0, S, E⟩ := J
    refine zAf hK ?_; clear hK; clear K
    iterate 2 (refine wp_seq_k ?_; intro K hK)
    refine zAb ?_
    refine zp E (by first | exact zAg (q := 0) E rfl rfl rfl | exact zAh (q := 0) E rfl rfl rfl) ?_; clear E a; intro a E
    refine zp E (by first | exact zAn E rfl rfl rfl (S.get (by repeat (first | exact pk1 | apply zAc))) rfl | exact zAj E rfl rfl rfl (by assumption)) ?_; clear E a; intro a E
    refine wpList_nil ?_
    refine zAf hK ?_; clear hK; clear K
    refine zEc (fun (a : Act) (w' : World) => ∃ z, z = ckB r ∧ St w0 As w' ([(b1, cel (r.cells (.slice ad1 r.props.length c1) (.slice ad2 r.keep.length c2) (.slice ad3 r.data.length c3)) 26)] :: As) ∧ Fr a 115 [(1, ptr b1), (2, .int .i64 0), (3, .bool z)]) ?_ ?_
    · refine wp_block ?_
      refine wp_seq_k ?_; intro K hK
      refine zAb ?_
      refine zp E (by first | exact zCc E rfl rfl rfl | exact zAs E rfl rfl rfl rfl | exact zBb E rfl rfl rfl rfl | exact zAt E rfl rfl rfl) ?_; clear E a; intro a E
      refine zp E (zAd E rfl rfl) ?_; clear E a; intro a E
      refine wpList_nil ?_
      refine zAf hK ?_; clear hK; clear K
      refine zBh E rfl (fun hb => ?_) (fun hb => ?_)
      · replace hb := Nrm.nrm hb
        have hk1 := hb
        refine zAb ?_
        refine zp E (zBn (vs := [_, _, _, _, _, _, _, _, _, _, _, _, _]) E rfl rfl rfl (S.get (by repeat (first | exact pk1 | apply zAc))) rfl rfl) ?_; clear E a; intro a E
        refine zAp E rfl rfl (by decide) rfl Tryz.func33 rfl (by kernel_rfl) rfl (zGf hR hs _ S.hp 3 (by decide) (by decide)) ?_
        rintro v18 w ⟨rfl, hT⟩; clear E a; intro a E
        have S := S.all hT
        refine zp E (zAe E rfl rfl) ?_; clear E a; intro a E
        refine zAr E (t := 19) rfl (fun hb19 => ?_) (fun hb19 => ?_)
        · have hb19n := hb19; replace hb19n := Nrm.nrm hb19n
          refine zy E hb19 (by first | exact zAg (q := 1) E rfl rfl rfl | exact zAh (q := 1) E rfl rfl rfl) ?_; clear E a; intro a E
          refine zy E hb19 (by first | exact zAn E rfl rfl rfl (S.get (by repeat (first | exact pk1 | apply zAc))) rfl | exact zAj E rfl rfl rfl (by assumption)) ?_; clear E a; intro a E
          refine zBx E rfl rfl rfl rfl hb19 ?_; refine zCo E rfl (by decide) rfl Tryz.func34 rfl (by kernel_rfl) rfl (zKr r.name (by omega) _ _ S.hp) ?_
          rintro v22 w ⟨rfl, hT⟩; clear E a; intro a E
          have S := S.all hT
          refine zp E (zAk E rfl rfl hb19 rfl) ?_; clear E a; intro a E
          refine zp E (zAe E rfl rfl) ?_; clear E a; intro a E
          refine zAr E (t := 24) rfl (fun hb24 => ?_) (fun hb24 => ?_)
          · have hb24n := hb24; replace hb24n := Nrm.nrm hb24n
            refine zy E hb24 (by first | exact zAg (q := 10) E rfl rfl rfl | exact zAh (q := 10) E rfl rfl rfl) ?_; clear E a; intro a E
            refine zy E hb24 (by first | exact zAn E rfl rfl rfl (S.get (by repeat (first | exact pk1 | apply zAc))) rfl | exact zAj E rfl rfl rfl (by assumption)) ?_; clear E a; intro a E
            refine zy E hb24 (zDy E rfl rfl rfl) ?_; clear E a; intro a E
            refine zp E (zAk E rfl rfl hb24 rfl) ?_; clear E a; intro a E
            refine zp E (zAe E rfl rfl) ?_; clear E a; intro a E
            refine zAr E (t := 29) rfl (fun hb29 => ?_) (fun hb29 => ?_)
            · have hb29n := hb29; replace hb29n := Nrm.nrm hb29n
              refine zy E hb29 (by first | exact zAg (q := 10) E rfl rfl rfl | exact zAh (q := 10) E rfl rfl rfl) ?_; clear E a; intro a E
              refine zy E hb29 (by first | exact zAn E rfl rfl rfl (S.get (by repeat (first | exact pk1 | apply zAc))) rfl | exact zAj E rfl rfl rfl (by assumption)) ?_; clear E a; intro a E
              refine zy E hb29 (zDx E rfl rfl rfl) ?_; clear E a; intro a E
              refine zp E (zAk E rfl rfl hb29 rfl) ?_; clear E a; intro a E
              refine zp E (zAd E rfl rfl) ?_; clear E a; intro a E
              refine wpList_nil ?_
              refine zBe ?_
              refine zAv ?_
              refine ⟨_, ?_, S, E.keep (zAa rfl (zAa rfl (zAa rfl zAm)))⟩
              first
                | (rw [ck1 hk1]; clear hT E S; clear hR hs hC H; simp_all <;> omega)
                | (rw [ck2 hk2]; clear hT E S; clear hR hs hC H; simp_all)
                | (rw [ck3 hk3]; clear hT E S; clear hR hs hC H; simp_all)
                | (rw [ck4 hk4]; simp only [may4]; clear hT E S; clear hR hs hC H; simp_all <;> omega)
                | (rw [ck5 hk5]; simp only [may5]; clear hT E S; clear hR hs hC H; simp_all <;> omega)
                | (rw [ck6 hk6]; simp only [may6]; clear hT E S; clear hR hs hC H; simp_all <;> omega)
                | (rw [ck0 (by unfold inK; omega)])
            · have hb29n := hb29; replace hb29n := Nrm.nrm hb29n
              iterate 3 (refine zn E hb29 ?_; clear E a; intro a E)
              refine zp E (zAi E rfl rfl hb29 rfl) ?_; clear E a; intro a E
              refine zp E (zAd E rfl rfl) ?_; clear E a; intro a E
              refine wpList_nil ?_
              refine zBe ?_
              refine zAv ?_
              refine ⟨_, ?_, S, E.keep (zAa rfl (zAa rfl (zAa rfl zAm)))⟩
              first
                | (rw [ck1 hk1]; clear hT E S; clear hR hs hC H; simp_all <;> omega)
                | (rw [ck2 hk2]; clear hT E S; clear hR hs hC H; simp_all)
                | (rw [ck3 hk3]; clear hT E S; clear hR hs hC H; simp_all)
                | (rw [ck4 hk4]; simp only [may4]; clear hT E S; clear hR hs hC H; simp_all <;> omega)
                | (rw [ck5 hk5]; simp only [may5]; clear hT E S; clear hR hs hC H; simp_all <;> omega)
                | (rw [ck6 hk6]; simp only [may6]; clear hT E S; clear hR hs hC H; simp_all <;> omega)
                | (rw [ck0 (by unfold inK; omega)])
          · have hb24n := hb24; replace hb24n := Nrm.nrm hb24n
            iterate 3 (refine zn E hb24 ?_; clear E a; intro a E)
            refine zp E (zAi E rfl rfl hb24 rfl) ?_; clear E a; intro a E
            refine zp E (zAe E rfl rfl) ?_; clear E a; intro a E
            iterate 3 (refine zn E rfl ?_; clear E a; intro a E)
            refine zp E (zAi E rfl rfl rfl rfl) ?_; clear E a; intro a E
            refine zp E (zAd E rfl rfl) ?_; clear E a; intro a E
            refine wpList_nil ?_
            refine zBe ?_
            refine zAv ?_
            refine ⟨_, ?_, S, E.keep (zAa rfl (zAa rfl (zAa rfl zAm)))⟩
            first
              | (rw [ck1 hk1]; clear hT E S; clear hR hs hC H; simp_all <;> omega)
              | (rw [ck2 hk2]; clear hT E S; clear hR hs hC H; simp_all)
              | (rw [ck3 hk3]; clear hT E S; clear hR hs hC H; simp_all)
              | (rw [ck4 hk4]; simp only [may4]; clear hT E S; clear hR hs hC H; simp_all <;> omega)
              | (rw [ck5 hk5]; simp only [may5]; clear hT E S; clear hR hs hC H; simp_all <;> omega)
              | (rw [ck6 hk6]; simp only [may6]; clear hT E S; clear hR hs hC H; simp_all <;> omega)
              | (rw [ck0 (by unfold inK; omega)])
        · have hb19n := hb19; replace hb19n := Nrm.nrm hb19n
          iterate 3 (refine zn E hb19 ?_; clear E a; intro a E)
          refine zp E (zAi E rfl rfl hb19 rfl) ?_; clear E a; intro a E
          refine zp E (zAe E rfl rfl) ?_; clear E a; intro a E
          iterate 3 (refine zn E rfl ?_; clear E a; intro a E)
          refine zp E (zAi E rfl rfl rfl rfl) ?_; clear E a; intro a E
          refine zp E (zAe E rfl rfl) ?_; clear E a; intro a E
          iterate 3 (refine zn E rfl ?_; clear E a; intro a E)
          refine zp E (zAi E rfl rfl rfl rfl) ?_; clear E a; intro a E
          refine zp E (zAd E rfl rfl) ?_; clear E a; intro a E
          refine wpList_nil ?_
          refine zBe ?_
          refine zAv ?_
          refine ⟨_, ?_, S, E.keep (zAa rfl (zAa rfl (zAa rfl zAm)))⟩
          first
            | (rw [ck1 hk1]; clear hT E S; clear hR hs hC H; simp_all <;> omega)
            | (rw [ck2 hk2]; clear hT E S; clear hR hs hC H; simp_all)
            | (rw [ck3 hk3]; clear hT E S; clear hR hs hC H; simp_all)
            | (rw [ck4 hk4]; simp only [may4]; clear hT E S; clear hR hs hC H; simp_all <;> omega)
            | (rw [ck5 hk5]; simp only [may5]; clear hT E S; clear hR hs hC H; simp_all <;> omega)
            | (rw [ck6 hk6]; simp only [may6]; clear hT E S; clear hR hs hC H; simp_all <;> omega)
            | (rw [ck0 (by unfold inK; omega)])
      · replace hb := Nrm.nrm hb
        have hk1 := hb
        refine wp_seq_k ?_; intro K hK
        refine zAb ?_
        refine zp E (by first | exact zCc E rfl rfl rfl | exact zAs E rfl rfl rfl rfl | exact zBb E rfl rfl rfl rfl | exact zAt E rfl rfl rfl) ?_; clear E a; intro a E
        refine zp E (zAd E rfl rfl) ?_; clear E a; intro a E
        refine wpList_nil ?_
        refine zAf hK ?_; clear hK; clear K
        refine zBh E rfl (fun hb => ?_) (fun hb => ?_)
        · replace hb := Nrm.nrm hb
          have hk2 := hb
          refine zAb ?_
          refine zp E (zBn (vs := [_, _, _, _, _, _, _, _, _, _, _, _, _]) E rfl rfl rfl (S.get (by repeat (first | exact pk1 | apply zAc))) rfl rfl) ?_; clear E a; intro a E
          refine zAp E rfl rfl (by decide) rfl Tryz.func33 rfl (by kernel_rfl) rfl (zGf hR hs _ S.hp 253 (by decide) (by decide)) ?_
          rintro v37 w ⟨rfl, hT⟩; clear E a; intro a E
          have S := S.all hT
          refine zp E (zAe E rfl rfl) ?_; clear E a; intro a E
          refine zAr E (t := 38) rfl (fun hb38 => ?_) (fun hb38 => ?_)
          · have hb38n := hb38; replace hb38n := Nrm.nrm hb38n
            refine zy E hb38 (zBn (vs := [_, _, _, _, _, _, _, _, _, _, _, _, _]) E rfl rfl rfl (S.get (by repeat (first | exact pk1 | apply zAc))) rfl rfl) ?_; clear E a; intro a E
            refine zBx E rfl rfl rfl rfl hb38 ?_; refine zCo E rfl (by decide) rfl Tryz.func35 rfl (by kernel_rfl) rfl (ubegin_ret hR hs (List.mem_cons_of_mem _ hC) _ S.hp) ?_
            rintro v40 w ⟨rfl, hT⟩; clear E a; intro a E
            have S := S.all hT
            refine zp E (zAk E rfl rfl hb38 rfl) ?_; clear E a; intro a E
            refine zp E (zAd E rfl rfl) ?_; clear E a; intro a E
            refine wpList_nil ?_
            refine zBe ?_
            refine zAv ?_
            refine ⟨_, ?_, S, E.keep (zAa rfl (zAa rfl (zAa rfl zAm)))⟩
            first
              | (rw [ck1 hk1]; clear hT E S; clear hR hs hC H; simp_all <;> omega)
              | (rw [ck2 hk2]; clear hT E S; clear hR hs hC H; simp_all)
              | (rw [ck3 hk3]; clear hT E S; clear hR hs hC H; simp_all)
              | (rw [ck4 hk4]; simp only [may4]; clear hT E S; clear hR hs hC H; simp_all <;> omega)
              | (rw [ck5 hk5]; simp only [may5]; clear hT E S; clear hR hs hC H; simp_all <;> omega)
              | (rw [ck6 hk6]; simp only [may6]; clear hT E S; clear hR hs hC H; simp_all <;> omega)
              | (rw [ck0 (by unfold inK; omega)])
          · have hb38n := hb38; replace hb38n := Nrm.nrm hb38n
            iterate 2 (refine zn E hb38 ?_; clear E a; intro a E)
            refine zp E (zAi E rfl rfl hb38 rfl) ?_; clear E a; intro a E
            refine zp E (zAd E rfl rfl) ?_; clear E a; intro a E
            refine wpList_nil ?_
            refine zBe ?_
            refine zAv ?_
            refine ⟨_, ?_, S, E.keep (zAa rfl (zAa rfl (zAa rfl zAm)))⟩
            first
              | (rw [ck1 hk1]; clear hT E S; clear hR hs hC H; simp_all <;> omega)
              | (rw [ck2 hk2]; clear hT E S; clear hR hs hC H; simp_all)
              | (rw [ck3 hk3]; clear hT E S; clear hR hs hC H; simp_all)
              | (rw [ck4 hk4]; simp only [may4]; clear hT E S; clear hR hs hC H; simp_all <;> omega)
              | (rw [ck5 hk5]; simp only [may5]; clear hT E S; clear hR hs hC H; simp_all <;> omega)
              | (rw [ck6 hk6]; simp only [may6]; clear hT E S; clear hR hs hC H; simp_all <;> omega)
              | (rw [ck0 (by unfold inK; omega)])
        · replace hb := Nrm.nrm hb
          have hk2 := hb
          refine wp_seq_k ?_; intro K hK
          refine zAb ?_
          refine zp E (by first | exact zCc E rfl rfl rfl | exact zAs E rfl rfl rfl rfl | exact zBb E rfl rfl rfl rfl | exact zAt E rfl rfl rfl) ?_; clear E a; intro a E
          refine zp E (zAd E rfl rfl) ?_; clear E a; intro a E
          refine wpList_nil ?_
          refine zAf hK ?_; clear hK; clear K
          refine zBh E rfl (fun hb => ?_) (fun hb => ?_)
          · replace hb := Nrm.nrm hb
            have hk3 := hb
            refine zAb ?_
            refine zp E (zBn (vs := [_, _, _, _, _, _, _, _, _, _, _, _, _]) E rfl rfl rfl (S.get (by repeat (first | exact pk1 | apply zAc))) rfl rfl) ?_; clear E a; intro a E
            refine zAp E rfl rfl (by decide) rfl Tryz.func33 rfl (by kernel_rfl) rfl (zGf hR hs _ S.hp 1024 (by decide) (by decide)) ?_
            rintro v45 w ⟨rfl, hT⟩; clear E a; intro a E
            have S := S.all hT
            refine zp E (zAe E rfl rfl) ?_; clear E a; intro a E
            refine zAr E (t := 46) rfl (fun hb46 => ?_) (fun hb46 => ?_)
            · have hb46n := hb46; replace hb46n := Nrm.nrm hb46n
              refine zy E hb46 (by first | exact zAg (q := 11) E rfl rfl rfl | exact zAh (q := 11) E rfl rfl rfl) ?_; clear E a; intro a E
              refine zy E hb46 (by first | exact zAn E rfl rfl rfl (S.get (by repeat (first | exact pk1 | apply zAc))) rfl | exact zAj E rfl rfl rfl (by assumption)) ?_; clear E a; intro a E
              refine zBx E rfl rfl rfl rfl hb46 ?_; refine zCo E rfl (by decide) rfl Tryz.func36 rfl (by kernel_rfl) rfl (uris_ret C _ r.keep hR.kr (by omega) 1 1048576 _ (List.mem_cons_of_mem _ hC) _ S.hp) ?_
              rintro v49 w ⟨rfl, hT⟩; clear E a; intro a E
              have S := S.all hT
              refine zp E (zAk E rfl rfl hb46 rfl) ?_; clear E a; intro a E
              refine zp E (zAd E rfl rfl) ?_; clear E a; intro a E
              refine wpList_nil ?_
              refine zBe ?_
              refine zAv ?_
              refine ⟨_, ?_, S, E.keep (zAa rfl (zAa rfl (zAa rfl zAm)))⟩
              first
                | (rw [ck1 hk1]; clear hT E S; clear hR hs hC H; simp_all <;> omega)
                | (rw [ck2 hk2]; clear hT E S; clear hR hs hC H; simp_all)
                | (rw [ck3 hk3]; clear hT E S; clear hR hs hC H; simp_all)
                | (rw [ck4 hk4]; simp only [may4]; clear hT E S; clear hR hs hC H; simp_all <;> omega)
                | (rw [ck5 hk5]; simp only [may5]; clear hT E S; clear hR hs hC H; simp_all <;> omega)
                | (rw [ck6 hk6]; simp only [may6]; clear hT E S; clear hR hs hC H; simp_all <;> omega)
                | (rw [ck0 (by unfold inK; omega)])
            · have hb46n := hb46; replace hb46n := Nrm.nrm hb46n
              iterate 3 (refine zn E hb46 ?_; clear E a; intro a E)
              refine zp E (zAi E rfl rfl hb46 rfl) ?_; clear E a; intro a E
              refine zp E (zAd E rfl rfl) ?_; clear E a; intro a E
              refine wpList_nil ?_
              refine zBe ?_
              refine zAv ?_
              refine ⟨_, ?_, S, E.keep (zAa rfl (zAa rfl (zAa rfl zAm)))⟩
              first
                | (rw [ck1 hk1]; clear hT E S; clear hR hs hC H; simp_all <;> omega)
                | (rw [ck2 hk2]; clear hT E S; clear hR hs hC H; simp_all)
                | (rw [ck3 hk3]; clear hT E S; clear hR hs hC H; simp_all)
                | (rw [ck4 hk4]; simp only [may4]; clear hT E S; clear hR hs hC H; simp_all <;> omega)
                | (rw [ck5 hk5]; simp only [may5]; clear hT E S; clear hR hs hC H; simp_all <;> omega)
                | (rw [ck6 hk6]; simp only [may6]; clear hT E S; clear hR hs hC H; simp_all <;> omega)
                | (rw [ck0 (by unfold inK; omega)])
          · replace hb := Nrm.nrm hb
            have hk3 := hb
            refine wp_seq_k ?_; intro K hK
            refine zAb ?_
            refine zp E (by first | exact zCc E rfl rfl rfl | exact zAs E rfl rfl rfl rfl | exact zBb E rfl rfl rfl rfl | exact zAt E rfl rfl rfl) ?_; clear E a; intro a E
            refine zp E (zAd E rfl rfl) ?_; clear E a; intro a E
            refine wpList_nil ?_
            refine zAf hK ?_; clear hK; clear K
            refine zBh E rfl (fun hb => ?_) (fun hb => ?_)
            · replace hb := Nrm.nrm hb
              have hk4 := hb
              refine zAb ?_
              refine zp E (zBn (vs := [_, _, _, _, _, _, _, _, _, _, _, _, _]) E rfl rfl rfl (S.get (by repeat (first | exact pk1 | apply zAc))) rfl rfl) ?_; clear E a; intro a E
              refine zAp E rfl rfl (by decide) rfl Tryz.func33 rfl (by kernel_rfl) rfl (zGf hR hs _ S.hp 1280 (by decide) (by decide)) ?_
              rintro v54 w ⟨rfl, hT⟩; clear E a; intro a E
              have S := S.all hT
              refine zp E (zAe E rfl rfl) ?_; clear E a; intro a E
              refine zAr E (t := 55) rfl (fun hb55 => ?_) (fun hb55 => ?_)
              · have hb55n := hb55; replace hb55n := Nrm.nrm hb55n
                refine zy E hb55 (zAe E rfl rfl) ?_; clear E a; intro a E
                refine zp E (zAk E rfl rfl hb55 rfl) ?_; clear E a; intro a E
                refine zp E (zAe E rfl rfl) ?_; clear E a; intro a E
                refine zAr E (t := 58) rfl (fun hb58 => ?_) (fun hb58 => ?_)
                · have hb58n := hb58; replace hb58n := Nrm.nrm hb58n
                  refine zy E hb58 (by first | exact zAg (q := 11) E rfl rfl rfl | exact zAh (q := 11) E rfl rfl rfl) ?_; clear E a; intro a E
                  refine zy E hb58 (by first | exact zAn E rfl rfl rfl (S.get (by repeat (first | exact pk1 | apply zAc))) rfl | exact zAj E rfl rfl rfl (by assumption)) ?_; clear E a; intro a E
                  refine zy E hb58 (by first | exact zBu E rfl rfl rfl | exact zAx E rfl rfl rfl | exact zAq E rfl rfl rfl) ?_; clear E a; intro a E
                  refine zy E hb58 (zDy E rfl rfl rfl) ?_; clear E a; intro a E
                  refine zp E (zAk E rfl rfl hb58 rfl) ?_; clear E a; intro a E
                  refine zp E (zAe E rfl rfl) ?_; clear E a; intro a E
                  refine zAr E (t := 64) rfl (fun hb64 => ?_) (fun hb64 => ?_)
                  · have hb64n := hb64; replace hb64n := Nrm.nrm hb64n
                    refine zy E hb64 (by first | exact zAg (q := 11) E rfl rfl rfl | exact zAh (q := 11) E rfl rfl rfl) ?_; clear E a; intro a E
                    refine zy E hb64 (by first | exact zAn E rfl rfl rfl (S.get (by repeat (first | exact pk1 | apply zAc))) rfl | exact zAj E rfl rfl rfl (by assumption)) ?_; clear E a; intro a E
                    refine zBx E rfl rfl rfl rfl hb64 ?_; refine zCo E rfl (by decide) rfl Tryz.func36 rfl (by kernel_rfl) rfl (uris_ret C _ r.keep hR.kr (by omega) (-1) 255 _ (List.mem_cons_of_mem _ hC) _ S.hp) ?_
                    rintro v67 w ⟨rfl, hT⟩; clear E a; intro a E
                    have S := S.all hT
                    refine zp E (zAk E rfl rfl hb64 rfl) ?_; clear E a; intro a E
                    refine zp E (zAd E rfl rfl) ?_; clear E a; intro a E
                    refine wpList_nil ?_
                    refine zBe ?_
                    refine zAv ?_
                    refine ⟨_, ?_, S, E.keep (zAa rfl (zAa rfl (zAa rfl zAm)))⟩
                    first
                      | (rw [ck1 hk1]; clear hT E S; clear hR hs hC H; simp_all <;> omega)
                      | (rw [ck2 hk2]; clear hT E S; clear hR hs hC H; simp_all)
                      | (rw [ck3 hk3]; clear hT E S; clear hR hs hC H; simp_all)
                      | (rw [ck4 hk4]; simp only [may4]; clear hT E S; clear hR hs hC H; simp_all <;> omega)
                      | (rw [ck5 hk5]; simp only [may5]; clear hT E S; clear hR hs hC H; simp_all <;> omega)
                      | (rw [ck6 hk6]; simp only [may6]; clear hT E S; clear hR hs hC H; simp_all <;> omega)
                      | (rw [ck0 (by unfold inK; omega)])
                  · have hb64n := hb64; replace hb64n := Nrm.nrm hb64n
                    iterate 3 (refine zn E hb64 ?_; clear E a; intro a E)
                    refine zp E (zAi E rfl rfl hb64 rfl) ?_; clear E a; intro a E
                    refine zp E (zAd E rfl rfl) ?_; clear E a; intro a E
                    refine wpList_nil ?_
                    refine zBe ?_
                    refine zAv ?_
                    refine ⟨_, ?_, S, E.keep (zAa rfl (zAa rfl (zAa rfl zAm)))⟩
                    first
                      | (rw [ck1 hk1]; clear hT E S; clear hR hs hC H; simp_all <;> omega)
                      | (rw [ck2 hk2]; clear hT E S; clear hR hs hC H; simp_all)
                      | (rw [ck3 hk3]; clear hT E S; clear hR hs hC H; simp_all)
                      | (rw [ck4 hk4]; simp only [may4]; clear hT E S; clear hR hs hC H; simp_all <;> omega)
                      | (rw [ck5 hk5]; simp only [may5]; clear hT E S; clear hR hs hC H; simp_all <;> omega)
                      | (rw [ck6 hk6]; simp only [may6]; clear hT E S; clear hR hs hC H; simp_all <;> omega)
                      | (rw [ck0 (by unfold inK; omega)])
                · have hb58n := hb58; replace hb58n := Nrm.nrm hb58n
                  iterate 4 (refine zn E hb58 ?_; clear E a; intro a E)
                  refine zp E (zAi E rfl rfl hb58 rfl) ?_; clear E a; intro a E
                  refine zp E (zAe E rfl rfl) ?_; clear E a; intro a E
                  iterate 3 (refine zn E rfl ?_; clear E a; intro a E)
                  refine zp E (zAi E rfl rfl rfl rfl) ?_; clear E a; intro a E
                  refine zp E (zAd E rfl rfl) ?_; clear E a; intro a E
                  refine wpList_nil ?_
                  refine zBe ?_
                  refine zAv ?_
                  refine ⟨_, ?_, S, E.keep (zAa rfl (zAa rfl (zAa rfl zAm)))⟩
                  first
                    | (rw [ck1 hk1]; clear hT E S; clear hR hs hC H; simp_all <;> omega)
                    | (rw [ck2 hk2]; clear hT E S; clear hR hs hC H; simp_all)
                    | (rw [ck3 hk3]; clear hT E S; clear hR hs hC H; simp_all)
                    | (rw [ck4 hk4]; simp only [may4]; clear hT E S; clear hR hs hC H; simp_all <;> omega)
                    | (rw [ck5 hk5]; simp only [may5]; clear hT E S; clear hR hs hC H; simp_all <;> omega)
                    | (rw [ck6 hk6]; simp only [may6]; clear hT E S; clear hR hs hC H; simp_all <;> omega)
                    | (rw [ck0 (by unfold inK; omega)])
              · have hb55n := hb55; replace hb55n := Nrm.nrm hb55n
                refine zn E hb55 ?_; clear E a; intro a E
                refine zp E (zAi E rfl rfl hb55 rfl) ?_; clear E a; intro a E
                refine zp E (zAe E rfl rfl) ?_; clear E a; intro a E
                iterate 4 (refine zn E rfl ?_; clear E a; intro a E)
                refine zp E (zAi E rfl rfl rfl rfl) ?_; clear E a; intro a E
                refine zp E (zAe E rfl rfl) ?_; clear E a; intro a E
                iterate 3 (refine zn E rfl ?_; clear E a; intro a E)
                refine zp E (zAi E rfl rfl rfl rfl) ?_; clear E a; intro a E
                refine zp E (zAd E rfl rfl) ?_; clear E a; intro a E
                refine wpList_nil ?_
                refine zBe ?_
                refine zAv ?_
                refine ⟨_, ?_, S, E.keep (zAa rfl (zAa rfl (zAa rfl zAm)))⟩
                first
                  | (rw [ck1 hk1]; clear hT E S; clear hR hs hC H; simp_all <;> omega)
                  | (rw [ck2 hk2]; clear hT E S; clear hR hs hC H; simp_all)
                  | (rw [ck3 hk3]; clear hT E S; clear hR hs hC H; simp_all)
                  | (rw [ck4 hk4]; simp only [may4]; clear hT E S; clear hR hs hC H; simp_all <;> omega)
                  | (rw [ck5 hk5]; simp only [may5]; clear hT E S; clear hR hs hC H; simp_all <;> omega)
                  | (rw [ck6 hk6]; simp only [may6]; clear hT E S; clear hR hs hC H; simp_all <;> omega)
                  | (rw [ck0 (by unfold inK; omega)])
            · replace hb := Nrm.nrm hb
              have hk4 := hb
              refine wp_seq_k ?_; intro K hK
              refine zAb ?_
              refine zp E (by first | exact zCc E rfl rfl rfl | exact zAs E rfl rfl rfl rfl | exact zBb E rfl rfl rfl rfl | exact zAt E rfl rfl rfl) ?_; clear E a; intro a E
              refine zp E (zAd E rfl rfl) ?_; clear E a; intro a E
              refine wpList_nil ?_
              refine zAf hK ?_; clear hK; clear K
              refine zBh E rfl (fun hb => ?_) (fun hb => ?_)
              · replace hb := Nrm.nrm hb
                have hk5 := hb
                refine zAb ?_
                refine zp E (zBn (vs := [_, _, _, _, _, _, _, _, _, _, _, _, _]) E rfl rfl rfl (S.get (by repeat (first | exact pk1 | apply zAc))) rfl rfl) ?_; clear E a; intro a E
                refine zAp E rfl rfl (by decide) rfl Tryz.func33 rfl (by kernel_rfl) rfl (zGf hR hs _ S.hp 2816 (by decide) (by decide)) ?_
                rintro v72 w ⟨rfl, hT⟩; clear E a; intro a E
                have S := S.all hT
                refine zp E (zAe E rfl rfl) ?_; clear E a; intro a E
                refine zAr E (t := 73) rfl (fun hb73 => ?_) (fun hb73 => ?_)
                · have hb73n := hb73; replace hb73n := Nrm.nrm hb73n
                  refine zy E hb73 (zAe E rfl rfl) ?_; clear E a; intro a E
                  refine zp E (zAk E rfl rfl hb73 rfl) ?_; clear E a; intro a E
                  refine zp E (zAe E rfl rfl) ?_; clear E a; intro a E
                  refine zAr E (t := 76) rfl (fun hb76 => ?_) (fun hb76 => ?_)
                  · have hb76n := hb76; replace hb76n := Nrm.nrm hb76n
                    refine zy E hb76 (by first | exact zAg (q := 9) E rfl rfl rfl | exact zAh (q := 9) E rfl rfl rfl) ?_; clear E a; intro a E
                    refine zy E hb76 (by first | exact zAn E rfl rfl rfl (S.get (by repeat (first | exact pk1 | apply zAc))) rfl | exact zAj E rfl rfl rfl (by assumption)) ?_; clear E a; intro a E
                    refine zy E hb76 (zDy E rfl rfl rfl) ?_; clear E a; intro a E
                    refine zp E (zAk E rfl rfl hb76 rfl) ?_; clear E a; intro a E
                    refine zp E (zAe E rfl rfl) ?_; clear E a; intro a E
                    refine zAr E (t := 81) rfl (fun hb81 => ?_) (fun hb81 => ?_)
                    · have hb81n := hb81; replace hb81n := Nrm.nrm hb81n
                      refine zy E hb81 (by first | exact zAg (q := 9) E rfl rfl rfl | exact zAh (q := 9) E rfl rfl rfl) ?_; clear E a; intro a E
                      refine zy E hb81 (by first | exact zAn E rfl rfl rfl (S.get (by repeat (first | exact pk1 | apply zAc))) rfl | exact zAj E rfl rfl rfl (by assumption)) ?_; clear E a; intro a E
                      refine zy E hb81 (zDx E rfl rfl rfl) ?_; clear E a; intro a E
                      refine zp E (zAk E rfl rfl hb81 rfl) ?_; clear E a; intro a E
                      refine zp E (zAe E rfl rfl) ?_; clear E a; intro a E
                      refine zAr E (t := 86) rfl (fun hb86 => ?_) (fun hb86 => ?_)
                      · have hb86n := hb86; replace hb86n := Nrm.nrm hb86n
                        refine zy E hb86 (by first | exact zAg (q := 12) E rfl rfl rfl | exact zAh (q := 12) E rfl rfl rfl) ?_; clear E a; intro a E
                        refine zy E hb86 (by first | exact zAn E rfl rfl rfl (S.get (by repeat (first | exact pk1 | apply zAc))) rfl | exact zAj E rfl rfl rfl (by assumption)) ?_; clear E a; intro a E
                        refine zy E hb86 (by first | exact zBu E rfl rfl rfl | exact zAx E rfl rfl rfl | exact zAq E rfl rfl rfl) ?_; clear E a; intro a E
                        refine zy E hb86 (zDy E rfl rfl rfl) ?_; clear E a; intro a E
                        refine zp E (zAk E rfl rfl hb86 rfl) ?_; clear E a; intro a E
                        refine zp E (zAe E rfl rfl) ?_; clear E a; intro a E
                        refine zAr E (t := 92) rfl (fun hb92 => ?_) (fun hb92 => ?_)
                        · have hb92n := hb92; replace hb92n := Nrm.nrm hb92n
                          refine zy E hb92 (by first | exact zAg (q := 12) E rfl rfl rfl | exact zAh (q := 12) E rfl rfl rfl) ?_; clear E a; intro a E
                          refine zy E hb92 (by first | exact zAn E rfl rfl rfl (S.get (by repeat (first | exact pk1 | apply zAc))) rfl | exact zAj E rfl rfl rfl (by assumption)) ?_; clear E a; intro a E
                          refine zy E hb92 (by first | exact zBu E rfl rfl rfl | exact zAx E rfl rfl rfl | exact zAq E rfl rfl rfl) ?_; clear E a; intro a E
                          refine zy E hb92 (zDx E rfl rfl rfl) ?_; clear E a; intro a E
                          refine zp E (zAk E rfl rfl hb92 rfl) ?_; clear E a; intro a E
                          refine zp E (zAd E rfl rfl) ?_; clear E a; intro a E
                          refine wpList_nil ?_
                          refine zBe ?_
                          refine zAv ?_
                          refine ⟨_, ?_, S, E.keep (zAa rfl (zAa rfl (zAa rfl zAm)))⟩
                          first
                            | (rw [ck1 hk1]; clear hT E S; clear hR hs hC H; simp_all <;> omega)
                            | (rw [ck2 hk2]; clear hT E S; clear hR hs hC H; simp_all)
                            | (rw [ck3 hk3]; clear hT E S; clear hR hs hC H; simp_all)
                            | (rw [ck4 hk4]; simp only [may4]; clear hT E S; clear hR hs hC H; simp_all <;> omega)
                            | (rw [ck5 hk5]; simp only [may5]; clear hT E S; clear hR hs hC H; simp_all <;> omega)
                            | (rw [ck6 hk6]; simp only [may6]; clear hT E S; clear hR hs hC H; simp_all <;> omega)
                            | (rw [ck0 (by unfold inK; omega)])
                        · have hb92n := hb92; replace hb92n := Nrm.nrm hb92n
                          iterate 4 (refine zn E hb92 ?_; clear E a; intro a E)
                          refine zp E (zAi E rfl rfl hb92 rfl) ?_; clear E a; intro a E
                          refine zp E (zAd E rfl rfl) ?_; clear E a; intro a E
                          refine wpList_nil ?_
                          refine zBe ?_
                          refine zAv ?_
                          refine ⟨_, ?_, S, E.keep (zAa rfl (zAa rfl (zAa rfl zAm)))⟩
                          first
                            | (rw [ck1 hk1]; clear hT E S; clear hR hs hC H; simp_all <;> omega)
                            | (rw [ck2 hk2]; clear hT E S; clear hR hs hC H; simp_all)
                            | (rw [ck3 hk3]; clear hT E S; clear hR hs hC H; simp_all)
                            | (rw [ck4 hk4]; simp only [may4]; clear hT E S; clear hR hs hC H; simp_all <;> omega)
                            | (rw [ck5 hk5]; simp only [may5]; clear hT E S; clear hR hs hC H; simp_all <;> omega)
                            | (rw [ck6 hk6]; simp only [may6]; clear hT E S; clear hR hs hC H; simp_all <;> omega)
                            | (rw [ck0 (by unfold inK; omega)])
                      · have hb86n := hb86; replace hb86n := Nrm.nrm hb86n
                        iterate 4 (refine zn E hb86 ?_; clear E a; intro a E)
                        refine zp E (zAi E rfl rfl hb86 rfl) ?_; clear E a; intro a E
                        refine zp E (zAe E rfl rfl) ?_; clear E a; intro a E
                        iterate 4 (refine zn E rfl ?_; clear E a; intro a E)
                        refine zp E (zAi E rfl rfl rfl rfl) ?_; clear E a; intro a E
                        refine zp E (zAd E rfl rfl) ?_; clear E a; intro a E
                        refine wpList_nil ?_
                        refine zBe ?_
                        refine zAv ?_
                        refine ⟨_, ?_, S, E.keep (zAa rfl (zAa rfl (zAa rfl zAm)))⟩
                        first
                          | (rw [ck1 hk1]; clear hT E S; clear hR hs hC H; simp_all <;> omega)
                          | (rw [ck2 hk2]; clear hT E S; clear hR hs hC H; simp_all)
                          | (rw [ck3 hk3]; clear hT E S; clear hR hs hC H; simp_all)
                          | (rw [ck4 hk4]; simp only [may4]; clear hT E S; clear hR hs hC H; simp_all <;> omega)
                          | (rw [ck5 hk5]; simp only [may5]; clear hT E S; clear hR hs hC H; simp_all <;> omega)
                          | (rw [ck6 hk6]; simp only [may6]; clear hT E S; clear hR hs hC H; simp_all <;> omega)
                          | (rw [ck0 (by unfold inK; omega)])
                    · have hb81n := hb81; replace hb81n := Nrm.nrm hb81n
                      iterate 3 (refine zn E hb81 ?_; clear E a; intro a E)
                      refine zp E (zAi E rfl rfl hb81 rfl) ?_; clear E a; intro a E
                      refine zp E (zAe E rfl rfl) ?_; clear E a; intro a E
                      iterate 4 (refine zn E rfl ?_; clear E a; intro a E)
                      refine zp E (zAi E rfl rfl rfl rfl) ?_; clear E a; intro a E
                      refine zp E (zAe E rfl rfl) ?_; clear E a; intro a E
                      iterate 4 (refine zn E rfl ?_; clear E a; intro a E)
                      refine zp E (zAi E rfl rfl rfl rfl) ?_; clear E a; intro a E
                      refine zp E (zAd E rfl rfl) ?_; clear E a; intro a E
                      refine wpList_nil ?_
                      refine zBe ?_
                      refine zAv ?_
                      refine ⟨_, ?_, S, E.keep (zAa rfl (zAa rfl (zAa rfl zAm)))⟩
                      first
                        | (rw [ck1 hk1]; clear hT E S; clear hR hs hC H; simp_all <;> omega)
                        | (rw [ck2 hk2]; clear hT E S; clear hR hs hC H; simp_all)
                        | (rw [ck3 hk3]; clear hT E S; clear hR hs hC H; simp_all)
                        | (rw [ck4 hk4]; simp only [may4]; clear hT E S; clear hR hs hC H; simp_all <;> omega)
                        | (rw [ck5 hk5]; simp only [may5]; clear hT E S; clear hR hs hC H; simp_all <;> omega)
                        | (rw [ck6 hk6]; simp only [may6]; clear hT E S; clear hR hs hC H; simp_all <;> omega)
                        | (rw [ck0 (by unfold inK; omega)])
                  · have hb76n := hb76; replace hb76n := Nrm.nrm hb76n
                    iterate 3 (refine zn E hb76 ?_; clear E a; intro a E)
                    refine zp E (zAi E rfl rfl hb76 rfl) ?_; clear E a; intro a E
                    refine zp E (zAe E rfl rfl) ?_; clear E a; intro a E
                    iterate 3 (refine zn E rfl ?_; clear E a; intro a E)
                    refine zp E (zAi E rfl rfl rfl rfl) ?_; clear E a; intro a E
                    refine zp E (zAe E rfl rfl) ?_; clear E a; intro a E
                    iterate 4 (refine zn E rfl ?_; clear E a; intro a E)
                    refine zp E (zAi E rfl rfl rfl rfl) ?_; clear E a; intro a E
                    refine zp E (zAe E rfl rfl) ?_; clear E a; intro a E
                    iterate 4 (refine zn E rfl ?_; clear E a; intro a E)
                    refine zp E (zAi E rfl rfl rfl rfl) ?_; clear E a; intro a E
                    refine zp E (zAd E rfl rfl) ?_; clear E a; intro a E
                    refine wpList_nil ?_
                    refine zBe ?_
                    refine zAv ?_
                    refine ⟨_, ?_, S, E.keep (zAa rfl (zAa rfl (zAa rfl zAm)))⟩
                    first
                      | (rw [ck1 hk1]; clear hT E S; clear hR hs hC H; simp_all <;> omega)
                      | (rw [ck2 hk2]; clear hT E S; clear hR hs hC H; simp_all)
                      | (rw [ck3 hk3]; clear hT E S; clear hR hs hC H; simp_all)
                      | (rw [ck4 hk4]; simp only [may4]; clear hT E S; clear hR hs hC H; simp_all <;> omega)
                      | (rw [ck5 hk5]; simp only [may5]; clear hT E S; clear hR hs hC H; simp_all <;> omega)
                      | (rw [ck6 hk6]; simp only [may6]; clear hT E S; clear hR hs hC H; simp_all <;> omega)
                      | (rw [ck0 (by unfold inK; omega)])
                · have hb73n := hb73; replace hb73n := Nrm.nrm hb73n
                  refine zn E hb73 ?_; clear E a; intro a E
                  refine zp E (zAi E rfl rfl hb73 rfl) ?_; clear E a; intro a E
                  refine zp E (zAe E rfl rfl) ?_; clear E a; intro a E
                  iterate 3 (refine zn E rfl ?_; clear E a; intro a E)
                  refine zp E (zAi E rfl rfl rfl rfl) ?_; clear E a; intro a E
                  refine zp E (zAe E rfl rfl) ?_; clear E a; intro a E
                  iterate 3 (refine zn E rfl ?_; clear E a; intro a E)
                  refine zp E (zAi E rfl rfl rfl rfl) ?_; clear E a; intro a E
                  refine zp E (zAe E rfl rfl) ?_; clear E a; intro a E
                  iterate 4 (refine zn E rfl ?_; clear E a; intro a E)
                  refine zp E (zAi E rfl rfl rfl rfl) ?_; clear E a; intro a E
                  refine zp E (zAe E rfl rfl) ?_; clear E a; intro a E
                  iterate 4 (refine zn E rfl ?_; clear E a; intro a E)
                  refine zp E (zAi E rfl rfl rfl rfl) ?_; clear E a; intro a E
                  refine zp E (zAd E rfl rfl) ?_; clear E a; intro a E
                  refine wpList_nil ?_
                  refine zBe ?_
                  refine zAv ?_
                  refine ⟨_, ?_, S, E.keep (zAa rfl (zAa rfl (zAa rfl zAm)))⟩
                  first
                    | (rw [ck1 hk1]; clear hT E S; clear hR hs hC H; simp_all <;> omega)
                    | (rw [ck2 hk2]; clear hT E S; clear hR hs hC H; simp_all)
                    | (rw [ck3 hk3]; clear hT E S; clear hR hs hC H; simp_all)
                    | (rw [ck4 hk4]; simp only [may4]; clear hT E S; clear hR hs hC H; simp_all <;> omega)
                    | (rw [ck5 hk5]; simp only [may5]; clear hT E S; clear hR hs hC H; simp_all <;> omega)
                    | (rw [ck6 hk6]; simp only [may6]; clear hT E S; clear hR hs hC H; simp_all <;> omega)
                    | (rw [ck0 (by unfold inK; omega)])
              · replace hb := Nrm.nrm hb
                have hk5 := hb
                iterate 2 (refine wp_seq_k ?_; intro K hK)
                refine zAb ?_
                refine zp E (by first | exact zCc E rfl rfl rfl | exact zAs E rfl rfl rfl rfl | exact zBb E rfl rfl rfl rfl | exact zAt E rfl rfl rfl) ?_; clear E a; intro a E
                refine zp E (zAd E rfl rfl) ?_; clear E a; intro a E
                refine wpList_nil ?_
                refine zAf hK ?_; clear hK; clear K
                refine zEc (fun (a : Act) (w' : World) => ∃ z, (z = true ↔ (r.kind = 6 ∨ r.kind = 7)) ∧ St w0 As w' ([(b1, cel (r.cells (.slice ad1 r.props.length c1) (.slice ad2 r.keep.length c2) (.slice ad3 r.data.length c3)) 26)] :: As) ∧ Fr a 115 [(1, ptr b1), (2, .int .i64 0), (3, .bool false), (14, .int .i64 r.kind), (98, .bool z)]) ?_ ?_
                · skip
                  refine zBh E rfl (fun hb => ?_) (fun hb => ?_)
                  · replace hb := Nrm.nrm hb
                    refine wp_skip ?_
                    refine zAv ?_
                    exact ⟨_, ⟨fun _ => by omega, fun _ => by simp; omega⟩, S, E.keep (zAa rfl (zAa rfl (zAa rfl (zAa rfl (zAa rfl zAm)))))⟩
                  · replace hb := Nrm.nrm hb
                    refine zAb ?_
                    refine zp E (by first | exact zCc E rfl rfl rfl | exact zAs E rfl rfl rfl rfl | exact zBb E rfl rfl rfl rfl | exact zAt E rfl rfl rfl) ?_; clear E a; intro a E
                    refine zp E (zAd E rfl rfl) ?_; clear E a; intro a E
                    refine wpList_nil ?_
                    refine zAv ?_
                    exact ⟨_, ⟨fun q => by simp at q; omega, fun q => by simp; omega⟩, S, E.keep (zAa rfl (zAa rfl (zAa rfl (zAa rfl (zAa rfl zAm)))))⟩
                · clear S E a; intro a w J; obtain ⟨z6, hz6, S, E⟩ := J
                  skip
                  refine zAf hK ?_; clear hK; clear K
                  refine zBh E rfl (fun hb => ?_) (fun hb => ?_)
                  · replace hb := Nrm.nrm hb
                    have hk6 := hz6.1 hb
                    refine zAb ?_
                    refine zp E (zBn (vs := [_, _, _, _, _, _, _, _, _, _, _, _, _]) E rfl rfl rfl (S.get (by repeat (first | exact pk1 | apply zAc))) rfl rfl) ?_; clear E a; intro a E
                    refine zAp E rfl rfl (by decide) rfl Tryz.func33 rfl (by kernel_rfl) rfl (zGf hR hs _ S.hp 2 (by decide) (by decide)) ?_
                    rintro v102 w ⟨rfl, hT⟩; clear E a; intro a E
                    have S := S.all hT
                    refine zp E (zAe E rfl rfl) ?_; clear E a; intro a E
                    refine zAr E (t := 103) rfl (fun hb103 => ?_) (fun hb103 => ?_)
                    · have hb103n := hb103; replace hb103n := Nrm.nrm hb103n
                      refine zy E hb103 (by first | exact zAg (q := 10) E rfl rfl rfl | exact zAh (q := 10) E rfl rfl rfl) ?_; clear E a; intro a E
                      refine zy E hb103 (by first | exact zAn E rfl rfl rfl (S.get (by repeat (first | exact pk1 | apply zAc))) rfl | exact zAj E rfl rfl rfl (by assumption)) ?_; clear E a; intro a E
                      refine zy E hb103 (zDy E rfl rfl rfl) ?_; clear E a; intro a E
                      refine zp E (zAk E rfl rfl hb103 rfl) ?_; clear E a; intro a E
                      refine zp E (zAe E rfl rfl) ?_; clear E a; intro a E
                      refine zAr E (t := 108) rfl (fun hb108 => ?_) (fun hb108 => ?_)
                      · have hb108n := hb108; replace hb108n := Nrm.nrm hb108n
                        refine zy E hb108 (by first | exact zAg (q := 10) E rfl rfl rfl | exact zAh (q := 10) E rfl rfl rfl) ?_; clear E a; intro a E
                        refine zy E hb108 (by first | exact zAn E rfl rfl rfl (S.get (by repeat (first | exact pk1 | apply zAc))) rfl | exact zAj E rfl rfl rfl (by assumption)) ?_; clear E a; intro a E
                        refine zy E hb108 (zDx E rfl rfl rfl) ?_; clear E a; intro a E
                        refine zp E (zAk E rfl rfl hb108 rfl) ?_; clear E a; intro a E
                        refine zp E (zAd E rfl rfl) ?_; clear E a; intro a E
                        refine wpList_nil ?_
                        refine zBe ?_
                        refine zAv ?_
                        refine ⟨_, ?_, S, E.keep (zAa rfl (zAa rfl (zAa rfl zAm)))⟩
                        first
                          | (rw [ck1 hk1]; clear hT E S; clear hR hs hC H; simp_all <;> omega)
                          | (rw [ck2 hk2]; clear hT E S; clear hR hs hC H; simp_all)
                          | (rw [ck3 hk3]; clear hT E S; clear hR hs hC H; simp_all)
                          | (rw [ck4 hk4]; simp only [may4]; clear hT E S; clear hR hs hC H; simp_all <;> omega)
                          | (rw [ck5 hk5]; simp only [may5]; clear hT E S; clear hR hs hC H; simp_all <;> omega)
                          | (rw [ck6 hk6]; simp only [may6]; clear hT E S; clear hR hs hC H; simp_all <;> omega)
                          | (rw [ck0 (by unfold inK; omega)])
                      · have hb108n := hb108; replace hb108n := Nrm.nrm hb108n
                        iterate 3 (refine zn E hb108 ?_; clear E a; intro a E)
                        refine zp E (zAi E rfl rfl hb108 rfl) ?_; clear E a; intro a E
                        refine zp E (zAd E rfl rfl) ?_; clear E a; intro a E
                        refine wpList_nil ?_
                        refine zBe ?_
                        refine zAv ?_
                        refine ⟨_, ?_, S, E.keep (zAa rfl (zAa rfl (zAa rfl zAm)))⟩
                        first
                          | (rw [ck1 hk1]; clear hT E S; clear hR hs hC H; simp_all <;> omega)
                          | (rw [ck2 hk2]; clear hT E S; clear hR hs hC H; simp_all)
                          | (rw [ck3 hk3]; clear hT E S; clear hR hs hC H; simp_all)
                          | (rw [ck4 hk4]; simp only [may4]; clear hT E S; clear hR hs hC H; simp_all <;> omega)
                          | (rw [ck5 hk5]; simp only [may5]; clear hT E S; clear hR hs hC H; simp_all <;> omega)
                          | (rw [ck6 hk6]; simp only [may6]; clear hT E S; clear hR hs hC H; simp_all <;> omega)
                          | (rw [ck0 (by unfold inK; omega)])
                    · have hb103n := hb103; replace hb103n := Nrm.nrm hb103n
                      iterate 3 (refine zn E hb103 ?_; clear E a; intro a E)
                      refine zp E (zAi E rfl rfl hb103 rfl) ?_; clear E a; intro a E
                      refine zp E (zAe E rfl rfl) ?_; clear E a; intro a E
                      iterate 3 (refine zn E rfl ?_; clear E a; intro a E)
                      refine zp E (zAi E rfl rfl rfl rfl) ?_; clear E a; intro a E
                      refine zp E (zAd E rfl rfl) ?_; clear E a; intro a E
                      refine wpList_nil ?_
                      refine zBe ?_
                      refine zAv ?_
                      refine ⟨_, ?_, S, E.keep (zAa rfl (zAa rfl (zAa rfl zAm)))⟩
                      first
                        | (rw [ck1 hk1]; clear hT E S; clear hR hs hC H; simp_all <;> omega)
                        | (rw [ck2 hk2]; clear hT E S; clear hR hs hC H; simp_all)
                        | (rw [ck3 hk3]; clear hT E S; clear hR hs hC H; simp_all)
                        | (rw [ck4 hk4]; simp only [may4]; clear hT E S; clear hR hs hC H; simp_all <;> omega)
                        | (rw [ck5 hk5]; simp only [may5]; clear hT E S; clear hR hs hC H; simp_all <;> omega)
                        | (rw [ck6 hk6]; simp only [may6]; clear hT E S; clear hR hs hC H; simp_all <;> omega)
                        | (rw [ck0 (by unfold inK; omega)])
                  · replace hb := Nrm.nrm hb
                    have hk6 : ¬ (r.kind = 6 ∨ r.kind = 7) := fun q => by rw [hz6.2 q] at hb; cases hb
                    refine wp_skip ?_
                    refine zBe ?_
                    refine zAv ?_
                    refine ⟨_, ?_, S, E.keep (zAa rfl (zAa rfl (zAa rfl zAm)))⟩
                    first
                      | (rw [ck1 hk1]; clear hT E S; clear hR hs hC H; simp_all <;> omega)
                      | (rw [ck2 hk2]; clear hT E S; clear hR hs hC H; simp_all)
                      | (rw [ck3 hk3]; clear hT E S; clear hR hs hC H; simp_all)
                      | (rw [ck4 hk4]; simp only [may4]; clear hT E S; clear hR hs hC H; simp_all <;> omega)
                      | (rw [ck5 hk5]; simp only [may5]; clear hT E S; clear hR hs hC H; simp_all <;> omega)
                      | (rw [ck6 hk6]; simp only [may6]; clear hT E S; clear hR hs hC H; simp_all <;> omega)
                      | (rw [ck0 (by unfold inK; omega)])
    · clear S E a; intro a w J; obtain ⟨z, hz, S, E⟩ := J
      refine zAf hK ?_; clear hK; clear K
      iterate 2 (refine wp_seq_k ?_; intro K hK)
      refine zAb ?_
      refine zp E (zAe E rfl rfl) ?_; clear E a; intro a E
      refine zp E (zDe E rfl rfl) ?_; clear E a; intro a E
      refine wpList_nil ?_
      refine zAf hK ?_; clear hK; clear K
      refine zBh E rfl (fun hb => ?_) (fun hb => ?_)
      · replace hb := Nrm.nrm hb
        refine wp_seq_k ?_; intro K hK
        refine zAb ?_
        refine zp E (zAd E rfl rfl) ?_; clear E a; intro a E
        refine wpList_nil ?_
        refine zAf hK ?_; clear hK; clear K
        refine wp_ret ?_
        refine zAy ?_; clear hK; clear K
        refine ret1 E rfl rfl ?_
        exact ⟨_, rfl, by simp at hb; rw [hz] at hb; simp [ckE, hb], S.tail.tr⟩
      · replace hb := Nrm.nrm hb
        refine wp_skip ?_
        refine zAf hK ?_; clear hK; clear K
        refine wp_seq_k ?_; intro K hK
        refine zAb ?_
        refine zp E (zAd E rfl rfl) ?_; clear E a; intro a E
        refine wpList_nil ?_
        refine zAf hK ?_; clear hK; clear K
        refine wp_ret ?_
        refine ret1 E rfl rfl ?_
        exact ⟨_, rfl, by simp at hb; rw [hz] at hb; simp [ckE, hb], S.tail.tr⟩
end
end Go.Proofs.YtbogecljkaimdaaGreatDoor
namespace Go.Sl
section
variable {P : Program} {a : Act} {w : World} {n : Nat} {e : List (Nat × Value)} {fn : Func} {R : Ending → World → Prop}
theorem ret_tc (E : Fr a n e) {q t : Nat} {v : Value} {ty : TypeId} {b : Nat} {vs : List Value} {T : TypeId} {fr : Nat × Nat} (hr : fn.results = #[.tmp q, .cell t ty]) (hv : lk e q = some v) (hp : lk e t = some (.pointer (some ⟨b, 0, none⟩)))
    (hb : w.heap[b]? = some (.cells vs.toArray T fr)) (hs : zEn P ty = some vs.length) (h : R (.returned (.tuple #[v, .agg vs.toArray])) w) : bodyPost P fn R .ret a w :=
  ⟨E.nod, .tuple #[v, .agg vs.toArray], by
    have h1 := zEj (P := P) hb hs
    have h2 := E.get t _ hp
    have h4 := E.get q _ hv
    simp [results, hr, h2, h4, asAddr, h1], h⟩
end
end Go.Sl
namespace Go.Sl
theorem form_step (n k : Nat) : zBv n (k + 1) = zBv n k ++ [UInt8.ofNat (n / 256 ^ k % 256)] := by
  rw [zBv]
  congr 2
  have : (2 : Nat) ^ (8 * k) = 256 ^ k := by rw [Nat.pow_mul]
  rw [this]
  apply UInt8.toNat_inj.1
  simp
theorem div_step (n k : Nat) : n / 256 ^ k / 256 = n / 256 ^ (k + 1) := by rw [Nat.div_div_eq_div_mul, Nat.pow_succ]
theorem w8m (n : Nat) : IntKind.u8.wrap ((n % 256 : Nat) : Int) = ((UInt8.ofNat (n % 256)).toNat : Int) := w8 _
theorem divle (n k : Nat) : n / 256 ^ k ≤ n := Nat.div_le_self _ _
end Go.Sl
namespace Go.Proofs.YtbogecljkaimdaaGreatDoor
open Go.Sl
set_option maxRecDepth 10000
abbrev BB (C : zAw) (v : Value) (bs : List UInt8) : Prop := Buf C 5 1 v bs.length (byt bs)
theorem zKs {C : zAw} {v : Value} {xs ys : List UInt8} (h : Buf C 5 1 v (xs.length + ys.length) (byt xs ++ byt ys)) : BB C v (xs ++ ys) := by
  show Buf C _ 1 v (xs ++ ys).length _
  rw [List.length_append, zDq]; exact h
theorem zCq {C : zAw} {v : Value} {bs : List UInt8} (hB : BB C v bs) (hl : bs.length ≤ 140737488300000) (z : Int) (hz : 0 ≤ z) (hz2 : z ≤ 9223372036854775807) (size : Nat) (h8 : size ≤ 8) (As : List zAw) (w0 : World) (H : Hp w0 (C :: As)) :
    Ret Tryz.prog 39 #[v, .int .i64 z, .int .i64 size] w0 fun u w' => ∃ C', BB C' u (bs ++ zBv z.toNat size) ∧ Trs w0 w' (C :: As) (C' :: As) := by
  have S := St.begin H
  obtain ⟨n, rfl⟩ : ∃ n : Nat, z = n := ⟨z.toNat, by omega⟩
  refine zFy 22 Tryz.func39 rfl rfl (by decide) ?_; intro a E
  refine wp_seq_k ?_; intro K hK
  refine zAb ?_
  refine zp E (zAd E rfl rfl) ?_; clear E a; intro a E
  refine wpList_nil ?_
  refine zAf hK ?_; clear hK; clear K
  iterate 2 (refine wp_seq_k ?_; intro K hK)
  refine zAb ?_
  refine zp E (zAd E rfl rfl) ?_; clear E a; intro a E
  refine wpList_nil ?_
  refine zAf hK ?_; clear hK; clear K
  refine wp_block ?_
  refine wp_loop_ghost (fun (m : Nat) (a : Act) (w' : World) => ∃ (i : Nat) (C' : zAw) (v' : Value), m = size - i ∧ i ≤ size ∧ BB C' v' (bs ++ zBv n i) ∧ St w0 (C :: As) w' (C' :: As) ∧ Fr a 22 [(0, v'), (1, .int .i64 (n / 256 ^ i : Nat)), (2, .int .i64 size), (6, nilv), (7, .int .i64 i)]) (size) ?_ ?_
  · exact ⟨0, C, v, by omega, by omega, by rw [zBv, List.append_nil]; exact hB, S, by rw [Nat.pow_zero, Nat.div_one]; exact E.keep (zAa rfl (zAa rfl (zAa rfl (zAa rfl (zAa rfl zAm)))))⟩
  clear E; clear a; (try clear S); rintro m a w ⟨i, C', v', rfl, hi, hB', S, E⟩
  iterate 2 (refine wp_seq_k ?_; intro K hK)
  refine zAb ?_
  iterate 2 (refine zp E (zAe E rfl rfl) ?_; clear E a; intro a E)
  refine zp E (zCk E rfl rfl rfl) ?_; clear E a; intro a E
  refine wpList_nil ?_
  refine zAf hK ?_; clear hK; clear K
  refine zBh E rfl (fun hb => ?_) (fun hb => ?_)
  · replace hb := Nrm.nrm hb
    refine wp_skip ?_
    refine zAf hK ?_; clear hK; clear K
    refine wp_seq_k ?_; intro K hK
    refine wp_block ?_
    refine wp_seq_k ?_; intro K hK
    have hd := divle n i
    have hst := form_step n i
    have hdv := div_step n i
    have hbl : (bs ++ zBv n i).length = bs.length + i := by rw [List.length_append, zBc]
    obtain ⟨d, hd2⟩ : ∃ d, d = n / 256 ^ i := ⟨_, rfl⟩
    rw [← hd2] at E hd hst hdv
    obtain ⟨cs, hcs⟩ : ∃ cs, cs = bs ++ zBv n i := ⟨_, rfl⟩
    rw [← hcs] at hB' hbl
    refine zAb ?_
    iterate 2 (refine zp E (zAe E rfl rfl) ?_; clear E a; intro a E)
    refine zp E (rn_rem E rfl rfl rfl (by first | decide | omega) (wr_lit (x := d) (y := 256))) ?_; clear E a; intro a E
    refine zp E (zBg E rfl rfl rfl rfl (w8m d)) ?_; clear E a; intro a E
    refine zAo rfl (zDn (cells := [_]) E S rfl rfl (by decide) rfl rfl rfl rfl rfl (by decide) rfl ?_); clear E S a; intro a w b17 E S
    refine zAo rfl (zCn (by' := 1) E S rfl rfl (by decide) rfl rfl hB' (by repeat (first | exact pk1 | apply zAc)) ((zFf (g := b17) (T := 5) (xs := [.int .u8 (UInt8.ofNat (d % 256)).toNat]) (s := 1) (m := 1) rfl (by simp [Value.oneCell']) (by omega) 1).src (S.stab.at (by repeat (first | exact mm1 | assumption | apply List.Mem.tail))) rfl) rfl rfl rfl rfl rfl rfl (by simp only [maxLen]; omega) (by omega) ?_); clear E S a; intro a w v18 C18 E S hB18
    refine zp E (zAd E rfl rfl) ?_; clear E a; intro a E
    refine wpList_nil ?_
    refine zAf hK ?_; clear hK; clear K
    refine zAb ?_
    refine zp E (zAe E rfl rfl) ?_; clear E a; intro a E
    refine zp E (rn_quo E rfl rfl rfl (by decide) (by first | exact wq_lit (y := 256) (by omega) | exact wq_litu (y := 256) (by omega) | exact rfl)) ?_; clear E a; intro a E
    refine zp E (zAd E rfl rfl) ?_; clear E a; intro a E
    refine wpList_nil ?_
    refine zBe ?_
    refine zAf hK ?_; clear hK; clear K
    refine zAb ?_
    refine zp E (zAe E rfl rfl) ?_; clear E a; intro a E
    refine zp E (zBt E rfl rfl rfl (by first | exact zCh (y := 1) (by omega) | exact w_in (by omega) | exact zBw (by omega) | exact rfl)) ?_; clear E a; intro a E
    refine zp E (zAd E rfl rfl) ?_; clear E a; intro a E
    refine wpList_nil ?_
    refine zBj ?_
    have hB2 : BB C18 v18 (cs ++ [UInt8.ofNat (d % 256)]) := zKs hB18
    exact ⟨_, by omega, i + 1, C18, v18, rfl, by omega, by rw [hst, ← List.append_assoc, ← hcs]; exact hB2, S.perm2.tail, by rw [← hdv]; exact E.keep (zAa rfl (zAa rfl (zAa rfl (zAa rfl (zAa rfl zAm)))))⟩
  · replace hb := Nrm.nrm hb
    refine wp_exit ?_
    refine zBa ?_; clear hK; clear K
    refine zBa ?_
    refine zCg ?_
    refine zAf hK ?_; clear hK; clear K
    refine wp_seq_k ?_; intro K hK
    refine zAb ?_
    refine zp E (zAe E rfl rfl) ?_; clear E a; intro a E
    refine zp E (zAd E rfl rfl) ?_; clear E a; intro a E
    refine wpList_nil ?_
    refine zAf hK ?_; clear hK; clear K
    refine wp_ret ?_
    refine ret1 E rfl rfl ?_
    obtain rfl : i = size := by omega
    exact ⟨_, rfl, C', by rw [Int.toNat_natCast]; exact hB', S.tr⟩
theorem zGg {C : zAw} {v : Value} {bs : List UInt8} (hB : BB C v bs) (t : List UInt8) (hl : bs.length + t.length ≤ 140737488200000) (As : List zAw) (w0 : World) (H : Hp w0 (C :: As)) :
    Ret Tryz.prog 81 #[v, str t] w0 fun u w' => ∃ C', BB C' u (bs ++ txt t) ∧ Trs w0 w' (C :: As) (C' :: As) := by
  have S := St.begin H
  refine zCl 12 Tryz.func81 rfl rfl (by decide) ?_; intro a E
  refine wp_seq_k ?_; intro K hK
  refine zAb ?_
  refine zp E (zAd E rfl rfl) ?_; clear E a; intro a E
  refine wpList_nil ?_
  refine zAf hK ?_; clear hK; clear K
  refine wp_seq_k ?_; intro K hK
  refine zAb ?_
  iterate 2 (refine zp E (zAe E rfl rfl) ?_; clear E a; intro a E)
  refine zp E (by first | exact zBu E rfl rfl rfl | exact zAx E rfl rfl rfl | exact zAq E rfl rfl rfl) ?_; clear E a; intro a E
  refine zAp E rfl rfl (by decide) rfl Tryz.func39 rfl (by kernel_rfl) rfl (zCq hB (by omega) t.length (by omega) (by omega) 2 (by omega) _ _ S.hp) ?_
  rintro v8 w ⟨C', hB', hT⟩; clear E a; intro a E
  have S := S.all hT
  refine zp E (zAd E rfl rfl) ?_; clear E a; intro a E
  refine wpList_nil ?_
  refine zAf hK ?_; clear hK; clear K
  refine wp_seq_k ?_; intro K hK
  rw [Int.toNat_natCast] at hB'
  have hbl : (bs ++ zBv t.length 2).length = bs.length + 2 := by rw [List.length_append, zBc]
  refine zAb ?_
  iterate 2 (refine zp E (zAe E rfl rfl) ?_; clear E a; intro a E)
  refine zAo rfl (zCn (by' := 1) E S rfl rfl (by decide) rfl rfl hB' (by repeat (first | exact pk1 | apply zAc)) (src_str rfl t _) rfl rfl rfl rfl rfl rfl (by simp only [maxLen]; omega) (by omega) ?_); clear E S a; intro a w v11 C11 E S hB11
  refine zp E (zAd E rfl rfl) ?_; clear E a; intro a E
  refine wpList_nil ?_
  refine zAf hK ?_; clear hK; clear K
  refine wp_ret ?_
  refine ret1 E rfl rfl ?_
  exact ⟨_, rfl, C11, by rw [txt, ← List.append_assoc]; exact zKs hB11, S.tr⟩
theorem zLm (s : Fs) (As : List zAw) (w0 : World) (H : Hp w0 As) (hok : s.Ok) :
    Ret Tryz.prog 40 #[s.agg] w0 fun u w' => ∃ C, BB C u (zFa s) ∧ Trs w0 w' As (C :: As) := by
  have S := St.begin H
  obtain ⟨ws, hws⟩ : ∃ ws, ws = s.ws := ⟨_, rfl⟩
  have hwl : ws.length = 4 := by rw [hws]; rfl
  have hwc : u64n ws = [.int .u64 s.a, .int .u64 s.b, .int .u64 s.c, .int .u64 s.d] := by rw [hws]; rfl
  have hwb : ∀ n ∈ ws, n < 18446744073709551616 := by
    obtain ⟨h1, h2, h3, h4⟩ := hok
    rw [hws]; simp only [Fs.ws, List.mem_cons, List.not_mem_nil, or_false]
    rintro n (rfl | rfl | rfl | rfl) <;> assumption
  refine zCu 38 Tryz.func40 rfl rfl (by decide) ?_; intro a E
  refine wp_seq_k ?_; intro K hK
  refine zAb ?_
  refine zAo rfl (zCm E S rfl rfl (by decide) rfl rfl ?_); clear E S a; intro a w b1 E S
  refine zp E (zAd E rfl rfl) ?_; clear E a; intro a E
  refine wpList_nil ?_
  refine zAf hK ?_; clear hK; clear K
  refine wp_seq_k ?_; intro K hK
  refine zAb ?_
  refine zp E (zAd E rfl rfl) ?_; clear E a; intro a E
  refine wpList_nil ?_
  refine zAf hK ?_; clear hK; clear K
  refine wp_seq_k ?_; intro K hK
  refine zAb ?_
  refine zp E (by first | exact zAg (q := 0) E rfl rfl rfl | exact zAh (q := 0) E rfl rfl rfl) ?_; clear E a; intro a E
  refine zp E (by first | exact zAn E rfl rfl rfl (S.get (by repeat (first | exact pk1 | apply zAc))) rfl | exact zAj E rfl rfl rfl (by assumption)) ?_; clear E a; intro a E
  refine zp E (by first | exact zAg (q := 1) E rfl rfl rfl | exact zAh (q := 1) E rfl rfl rfl) ?_; clear E a; intro a E
  refine zp E (by first | exact zAn E rfl rfl rfl (S.get (by repeat (first | exact pk1 | apply zAc))) rfl | exact zAj E rfl rfl rfl (by assumption)) ?_; clear E a; intro a E
  refine zp E (by first | exact zAg (q := 2) E rfl rfl rfl | exact zAh (q := 2) E rfl rfl rfl) ?_; clear E a; intro a E
  refine zp E (by first | exact zAn E rfl rfl rfl (S.get (by repeat (first | exact pk1 | apply zAc))) rfl | exact zAj E rfl rfl rfl (by assumption)) ?_; clear E a; intro a E
  refine zp E (by first | exact zAg (q := 3) E rfl rfl rfl | exact zAh (q := 3) E rfl rfl rfl) ?_; clear E a; intro a E
  refine zp E (by first | exact zAn E rfl rfl rfl (S.get (by repeat (first | exact pk1 | apply zAc))) rfl | exact zAj E rfl rfl rfl (by assumption)) ?_; clear E a; intro a E
  refine zAo rfl (zDn (cells := [_, _, _, _]) E S rfl rfl (by decide) rfl rfl rfl rfl rfl (by decide) rfl ?_); clear E S a; intro a w b16 E S
  rw [← hwc] at S
  refine zp E (zAd E rfl rfl) ?_; clear E a; intro a E
  refine wpList_nil ?_
  refine zAf hK ?_; clear hK; clear K
  iterate 2 (refine wp_seq_k ?_; intro K hK)
  refine zAb ?_
  refine zp E (zAd E rfl rfl) ?_; clear E a; intro a E
  refine wpList_nil ?_
  refine zAf hK ?_; clear hK; clear K
  refine wp_block ?_
  refine wp_loop_ghost (fun (m : Nat) (a : Act) (w' : World) => ∃ (i : Nat) (C : zAw) (v : Value), m = 4 - i ∧ i ≤ 4 ∧ BB C v (zGe (ws.take i)) ∧ St w0 As w' (C :: [(b16, cel (u64n ws) 27)] :: As) ∧ Fr a 38 [(2, nilv), (3, v), (4, .slice (some ⟨b16, 0, none⟩) 4 4), (5, .int .i64 i)]) (4) ?_ ?_
  · exact ⟨0, [], _, by omega, by omega, Buf.nil _ _, S.perm2.tail.addNil, E.keep (zAa rfl (zAa rfl (zAa rfl (zAa rfl zAm))))⟩
  clear E; clear a; (try clear S); rintro m a w ⟨i, C, v, rfl, hi, hB, S, E⟩
  iterate 2 (refine wp_seq_k ?_; intro K hK)
  refine zAb ?_
  refine zp E (zAe E rfl rfl) ?_; clear E a; intro a E
  refine zp E (zCk E rfl rfl rfl) ?_; clear E a; intro a E
  refine wpList_nil ?_
  refine zAf hK ?_; clear hK; clear K
  refine zBh E rfl (fun hb => ?_) (fun hb => ?_)
  · replace hb := Nrm.nrm hb
    refine wp_skip ?_
    refine zAf hK ?_; clear hK; clear K
    refine wp_seq_k ?_; intro K hK
    refine wp_block ?_
    refine wp_seq_k ?_; intro K hK
    have hil : i < ws.length := by omega
    have hwi := hwb _ (List.getElem_mem hil)
    refine zAb ?_
    iterate 2 (refine zp E (zAe E rfl rfl) ?_; clear E a; intro a E)
    refine zp E (by first | exact zBo E rfl rfl rfl rfl rfl rfl (by omega) | exact zBq E rfl rfl rfl rfl rfl rfl (by omega) | exact zBd E rfl rfl rfl rfl rfl rfl (by omega)) ?_; clear E a; intro a E
    refine zp E (zAj E rfl rfl rfl (by rw [Nat.zero_add]; exact zCw (S.get (by repeat (first | exact pk1 | apply zAc))) (u64n_at hil))) ?_; clear E a; intro a E
    refine zp E (zAd E rfl rfl) ?_; clear E a; intro a E
    refine wpList_nil ?_
    refine zAf hK ?_; clear hK; clear K
    refine wp_seq_k ?_; intro K hK
    refine zAb ?_
    refine zp E (zAd E rfl rfl) ?_; clear E a; intro a E
    refine wpList_nil ?_
    refine zAf hK ?_; clear hK; clear K
    refine wp_block ?_
    refine wp_loop_ghost (fun (m : Nat) (a : Act) (w' : World) => ∃ (j : Nat) (C : zAw) (v : Value), m = 8 - j ∧ j ≤ 8 ∧ BB C v (zGe (ws.take i) ++ zBv ws[i] j) ∧ St w0 As w' (C :: [(b16, cel (u64n ws) 27)] :: As) ∧ Fr a 38 [(2, nilv), (3, v), (4, .slice (some ⟨b16, 0, none⟩) 4 4), (5, .int .i64 i), (6, .int .u64 (ws[i] / 256 ^ j : Nat)), (7, .int .i64 j)]) (8) ?_ ?_
    · exact ⟨0, C, v, by omega, by omega, by simpa [zBv] using hB, S, by rw [Nat.pow_zero, Nat.div_one]; exact E.keep (zAa rfl (zAa rfl (zAa rfl (zAa rfl (zAa rfl (zAa rfl zAm))))))⟩
    clear E; clear a; (try clear S); rintro m a w ⟨j, C, v, rfl, hj, hB, S, E⟩
    iterate 2 (refine wp_seq_k ?_; intro K hK)
    refine zAb ?_
    refine zp E (zAe E rfl rfl) ?_; clear E a; intro a E
    refine zp E (zCk E rfl rfl rfl) ?_; clear E a; intro a E
    refine wpList_nil ?_
    refine zAf hK ?_; clear hK; clear K
    refine zBh E rfl (fun hb => ?_) (fun hb => ?_)
    · replace hb := Nrm.nrm hb
      refine wp_skip ?_
      refine zAf hK ?_; clear hK; clear K
      refine wp_seq_k ?_; intro K hK
      refine wp_block ?_
      refine wp_seq_k ?_; intro K hK
      have hd := divle ws[i] j
      have hst := form_step ws[i] j
      have hdv := div_step ws[i] j
      have hbl : (zGe (ws.take i) ++ zBv ws[i] j).length = 8 * i + j := by rw [List.length_append, zBc, zIm, List.length_take, Nat.min_eq_left (by omega)]
      obtain ⟨d, hd2⟩ : ∃ d, d = ws[i] / 256 ^ j := ⟨_, rfl⟩
      rw [← hd2] at E hd hst hdv
      obtain ⟨cs, hcs⟩ : ∃ cs, cs = zGe (ws.take i) ++ zBv ws[i] j := ⟨_, rfl⟩
      rw [← hcs] at hB hbl
      refine zAb ?_
      iterate 2 (refine zp E (zAe E rfl rfl) ?_; clear E a; intro a E)
      refine zp E (rn_rem E rfl rfl rfl (by first | decide | omega) (wr_lit (x := d) (y := 256))) ?_; clear E a; intro a E
      refine zp E (zBg E rfl rfl rfl rfl (w8m d)) ?_; clear E a; intro a E
      refine zAo rfl (zDn (cells := [_]) E S rfl rfl (by decide) rfl rfl rfl rfl rfl (by decide) rfl ?_); clear E S a; intro a w b33 E S
      refine zAo rfl (zCn (by' := 1) E S rfl rfl (by decide) rfl rfl hB (by repeat (first | exact pk1 | apply zAc)) ((zFf (g := b33) (T := 5) (xs := [.int .u8 (UInt8.ofNat (d % 256)).toNat]) (s := 1) (m := 1) rfl (by simp [Value.oneCell']) (by omega) 1).src (S.stab.at (by repeat (first | exact mm1 | assumption | apply List.Mem.tail))) rfl) rfl rfl rfl rfl rfl rfl (by simp only [maxLen]; omega) (by omega) ?_); clear E S a; intro a w v34 C34 E S hB34
      refine zp E (zAd E rfl rfl) ?_; clear E a; intro a E
      refine wpList_nil ?_
      refine zAf hK ?_; clear hK; clear K
      refine zAb ?_
      refine zp E (zAe E rfl rfl) ?_; clear E a; intro a E
      refine zp E (rn_quo E rfl rfl rfl (by decide) (by first | exact wq_lit (y := 256) (by omega) | exact wq_litu (y := 256) (by omega) | exact rfl)) ?_; clear E a; intro a E
      refine zp E (zAd E rfl rfl) ?_; clear E a; intro a E
      refine wpList_nil ?_
      refine zBe ?_
      refine zAf hK ?_; clear hK; clear K
      refine zAb ?_
      refine zp E (zAe E rfl rfl) ?_; clear E a; intro a E
      refine zp E (zBt E rfl rfl rfl (by first | exact zCh (y := 1) (by omega) | exact w_in (by omega) | exact zBw (by omega) | exact rfl)) ?_; clear E a; intro a E
      refine zp E (zAd E rfl rfl) ?_; clear E a; intro a E
      refine wpList_nil ?_
      refine zBj ?_
      have hB2 : BB C34 v34 (cs ++ [UInt8.ofNat (d % 256)]) := zKs hB34
      exact ⟨_, by omega, j + 1, C34, v34, rfl, by omega, by rw [hst, ← List.append_assoc, ← hcs]; exact hB2, S.perm2.tail, by rw [← hdv]; exact E.keep (zAa rfl (zAa rfl (zAa rfl (zAa rfl (zAa rfl (zAa rfl zAm))))))⟩
    · replace hb := Nrm.nrm hb
      refine wp_exit ?_
      refine zBa ?_; clear hK; clear K
      refine zBa ?_
      refine zCg ?_
      refine zBe ?_
      refine zAf hK ?_; clear hK; clear K
      refine zAb ?_
      refine zp E (zAe E rfl rfl) ?_; clear E a; intro a E
      refine zp E (zBt E rfl rfl rfl (by first | exact zCh (y := 1) (by omega) | exact w_in (by omega) | exact zBw (by omega) | exact rfl)) ?_; clear E a; intro a E
      refine zp E (zAd E rfl rfl) ?_; clear E a; intro a E
      refine wpList_nil ?_
      refine zBj ?_
      obtain rfl : j = 8 := by omega
      exact ⟨_, by omega, i + 1, C, v, rfl, by omega, by rw [zKl hil]; exact hB, S, E.keep (zAa rfl (zAa rfl (zAa rfl (zAa rfl zAm))))⟩
  · replace hb := Nrm.nrm hb
    refine wp_exit ?_
    refine zBa ?_; clear hK; clear K
    refine zBa ?_
    refine zCg ?_
    refine zAf hK ?_; clear hK; clear K
    refine wp_seq_k ?_; intro K hK
    refine zAb ?_
    refine zp E (zAe E rfl rfl) ?_; clear E a; intro a E
    refine zp E (zAd E rfl rfl) ?_; clear E a; intro a E
    refine wpList_nil ?_
    refine zAf hK ?_; clear hK; clear K
    refine wp_ret ?_
    refine ret1 E rfl rfl ?_
    obtain rfl : i = 4 := by omega
    rw [List.take_of_length_le (by omega), hws] at hB
    exact ⟨_, rfl, C, hB, S.perm2.tail.tr⟩
theorem usealed_ret (k : Nat) (hk : k ≤ 255) {D : zAw} {v : Value} {b : List UInt8} (hD : Rd D 1 v b.length (byt b)) (hbl : b.length ≤ 140737488000000) (s : Fs) (hok : s.Ok) {As : List zAw} (mD : D ∈ As) (hG0 : Tab As 0 sha0.l) (hG1 : Tab As 1 shaK) (w0 : World) (H : Hp w0 As) :
    Ret Tryz.prog 18 #[.int .i64 k, v, s.agg] w0 fun u w' => ∃ v' C, u = .tuple #[v', (ownS k b s).agg] ∧ BB C v' (zDj k b s) ∧ Trs w0 w' As (C :: As) := by
  have S := St.begin H
  obtain ⟨ad, c, rfl⟩ := hD.slice
  have hsl := zDu s
  refine zFy 37 Tryz.func18 rfl rfl (by decide) ?_; intro a E
  refine wp_seq_k ?_; intro K hK
  refine zAb ?_
  refine zAo rfl (zCm E S rfl rfl (by decide) rfl rfl ?_); clear E S a; intro a w b5 E S
  refine zp E (zAd E rfl rfl) ?_; clear E a; intro a E
  refine zAo rfl (zBy E S rfl rfl (by decide) rfl rfl rfl ?_); clear E S a; intro a w b7 E S
  refine wpList_nil ?_
  refine zAf hK ?_; clear hK; clear K
  refine wp_seq_k ?_; intro K hK
  refine zAb ?_
  refine zp E (zAe E rfl rfl) ?_; clear E a; intro a E
  refine zp E (zBg E rfl rfl rfl rfl (w8 k)) ?_; clear E a; intro a E
  refine zAo rfl (zDn (cells := [_]) E S rfl rfl (by decide) rfl rfl rfl rfl rfl (by decide) rfl ?_); clear E S a; intro a w b14 E S
  refine zp E (zAd E rfl rfl) ?_; clear E a; intro a E
  refine wpList_nil ?_
  refine zAf hK ?_; clear hK; clear K
  refine wp_seq_k ?_; intro K hK
  have hB1 : BB [(b14, cel (byt [UInt8.ofNat k]) 5)] (.slice (some ⟨b14, 0, none⟩) 1 1) [UInt8.ofNat k] := zIh b14 [UInt8.ofNat k] 5 (by simp)
  refine zAb ?_
  iterate 2 (refine zp E (zAe E rfl rfl) ?_; clear E a; intro a E)
  refine zp E (by first | exact zBu E rfl rfl rfl | exact zAx E rfl rfl rfl | exact zAq E rfl rfl rfl) ?_; clear E a; intro a E
  refine zAp E rfl rfl (by decide) rfl Tryz.func39 rfl (by kernel_rfl) rfl (zCq hB1 (by simp) b.length (by omega) (by omega) 4 (by omega) _ _ S.hp) ?_
  rintro v18 w ⟨C2, hB2, hT⟩; clear E a; intro a E
  have S := S.all hT
  refine zp E (zAd E rfl rfl) ?_; clear E a; intro a E
  refine wpList_nil ?_
  refine zAf hK ?_; clear hK; clear K
  refine wp_seq_k ?_; intro K hK
  have hh : [UInt8.ofNat k] ++ zBv ((b.length : Int)).toNat 4 = headB k b.length := by simp [headB, zBv]
  rw [hh] at hB2
  have hhl := zGz k b.length
  refine zAb ?_
  iterate 2 (refine zp E (zAe E rfl rfl) ?_; clear E a; intro a E)
  refine zAo rfl (zCn (by' := 1) E S rfl rfl (by decide) rfl rfl hB2 (by repeat (first | exact pk1 | apply zAc)) (hD.src (S.stab.at (List.Mem.tail _ (List.Mem.tail _ (List.Mem.tail _ mD)))) rfl) rfl rfl rfl rfl rfl rfl (by simp only [maxLen]; omega) (by omega) ?_); clear E S a; intro a w v21 C21 E S hB21
  refine zp E (zAd E rfl rfl) ?_; clear E a; intro a E
  refine wpList_nil ?_
  refine zAf hK ?_; clear hK; clear K
  refine wp_seq_k ?_; intro K hK
  have hB3 : BB C21 v21 (zFx k b) := zKs hB21
  have hfl := zEu k b
  clear hB21
  refine zAb ?_
  refine zp E (zBn (vs := [_, _, _, _]) E rfl rfl rfl (S.get (by repeat (first | exact pk1 | apply zAc))) rfl rfl) ?_; clear E a; intro a E
  refine zAp E rfl rfl (by decide) rfl Tryz.func40 rfl (by kernel_rfl) rfl (zLm s _ _ S.hp hok) ?_
  rintro v23 w ⟨C4, hB4, hT⟩; clear E a; intro a E
  have S := S.all hT
  refine zp E (zAd E rfl rfl) ?_; clear E a; intro a E
  refine wpList_nil ?_
  refine zAf hK ?_; clear hK; clear K
  refine wp_seq_k ?_; intro K hK
  refine zAb ?_
  iterate 2 (refine zp E (zAe E rfl rfl) ?_; clear E a; intro a E)
  refine zAo rfl (zCn (by' := 1) E S rfl rfl (by decide) rfl rfl hB4 (by repeat (first | exact pk1 | apply zAc)) (hB3.rd.src (S.stab.at (by repeat (first | exact mm1 | assumption | apply List.Mem.tail))) rfl) rfl rfl rfl rfl rfl rfl (by simp only [maxLen]; omega) (by omega) ?_); clear E S a; intro a w v26 C26 E S hB26
  refine zp E (zAd E rfl rfl) ?_; clear E a; intro a E
  refine wpList_nil ?_
  refine zAf hK ?_; clear hK; clear K
  refine wp_seq_k ?_; intro K hK
  replace E := E.keep (e' := [(6, _), (7, _), (8, _), (9, _)]) (zAa rfl (zAa rfl (zAa rfl (zAa rfl (zAm)))))
  have hB5 : BB C26 v26 (zFa s ++ zFx k b) := zKs hB26
  have h5l : (zFa s ++ zFx k b).length = 37 + b.length := by rw [List.length_append]; omega
  refine zAb ?_
  refine zp E (zAe E rfl rfl) ?_; clear E a; intro a E
  refine zAp E rfl rfl (by decide) rfl Tryz.func41 rfl (by kernel_rfl) rfl (dsumof2_ret C26 v26 _ hB5.rd (by omega) _ (by repeat (first | exact mm1 | assumption | apply List.Mem.tail)) (hG0.sub fun Q hQ => List.Mem.tail _ (List.Mem.tail _ (List.Mem.tail _ (List.Mem.tail _ hQ)))) (hG1.sub fun Q hQ => List.Mem.tail _ (List.Mem.tail _ (List.Mem.tail _ (List.Mem.tail _ hQ)))) _ S.hp) ?_
  rintro v29 w ⟨he, hT⟩; clear E a; intro a E
  obtain ⟨own, hown⟩ : ∃ own, own = ownS k b s := ⟨_, rfl⟩; have hokO : own.Ok := (by rw [hown]; exact shaF_ok _); rw [show shaF (zFa s ++ zFx k b) = own from hown.symm] at he; subst he; have S := S.all hT
  refine zp E (zAe E rfl rfl) ?_; clear E a; intro a E
  iterate 2 (refine zp E (zBr E rfl rfl rfl) ?_; clear E a; intro a E)
  refine zAo rfl (zBy E S rfl rfl (by decide) rfl rfl rfl ?_); clear E S a; intro a w b10 E S
  refine zAo rfl (zBk E S rfl rfl rfl rfl (by simp [Value.oneCell']) rfl (by repeat (first | exact pk1 | apply zAc)) (by simp) ?_); clear E S a; intro a w E S; simp only [List.take_succ_cons, List.take_zero, List.drop_succ_cons, List.drop_zero, List.cons_append, List.nil_append, List.append_nil, List.length_cons, List.length_nil, Nat.zero_add, Nat.add_zero] at S
  refine zp E (zAd E rfl rfl) ?_; clear E a; intro a E
  refine wpList_nil ?_
  refine zAf hK ?_; clear hK; clear K
  refine wp_seq_k ?_; intro K hK
  have hol := zDu own
  refine zDp S (.ofL [(0, 0), (1, 0), (4, 0), (2, 1), (3, 1), (5, 0), (6, 3)]) [[(b10, cel (fsC own) 29)]] (fun h => h.sub (by first | (simp; done) | (simp +contextual; done) | (simp [*]; done))) (by kernel_rfl) (by kernel_rfl) ?_
  clear S; intro w S
  refine zm E rfl (fun w h => zAe E rfl rfl) ?_; clear E a; intro a E
  iterate 2 (refine zm E rfl (fun w h => zBn (vs := [_, _, _, _]) E rfl rfl rfl (h.one (by repeat (first | exact mm1 | assumption | apply List.Mem.tail))) rfl rfl) ?_; clear E a; intro a E)
  refine zCd E rfl rfl rfl (by decide) rfl Tryz.func40 rfl (by kernel_rfl) rfl (zLm own _ _ S.hp hokO) ?_
  rintro v34 w ⟨C7, hB7, hT⟩; clear E a; intro a E
  have S := S.all hT
  refine ⟨S.stab.sub (by first | (simp; done) | (simp +contextual; done) | (simp [*]; done)), ?_⟩
  refine zDm rfl rfl (zCn (by' := 1) E S rfl rfl (by decide) rfl rfl hB3 (by repeat (first | exact pk1 | apply zAc)) (hB7.rd.src (S.stab.at (by repeat (first | exact mm1 | assumption | apply List.Mem.tail))) rfl) rfl rfl rfl rfl rfl rfl (by simp only [maxLen]; omega) (by omega) ?_); clear E S a; intro a w v35 C35 E S hB35; refine ⟨S.stab.sub (by first | (simp; done) | (simp +contextual; done) | (simp [*]; done)), ?_⟩
  refine zm E rfl (fun w h => zAd E rfl rfl) ?_; clear E a; intro a E
  refine zCt rfl rfl (zBk E S rfl rfl rfl rfl (by simp [Value.oneCell']) rfl (by repeat (first | exact pk1 | apply zAc)) (by simp) ?_); clear E S a; intro a w E S; simp only [List.take_succ_cons, List.take_zero, List.drop_succ_cons, List.drop_zero, List.cons_append, List.nil_append, List.append_nil, List.length_cons, List.length_nil, Nat.zero_add, Nat.add_zero] at S
  refine zBz ?_
  refine zAf hK ?_; clear hK; clear K
  refine wp_ret ?_
  refine ret_tc E rfl rfl rfl (S.get (by repeat (first | exact pk1 | apply zAc))) rfl ?_
  have hB8 : BB C35 v35 (zFx k b ++ zFa own) := zKs hB35
  refine ⟨_, rfl, v35, C35, by rw [← hown], by rw [zDj, ← hown]; exact hB8, ?_⟩
  exact (St.drops [_, _, _, _, _] (S.front1 (A := C35) (by repeat (first | exact pk1 | apply zAc)))).tr
end Go.Proofs.YtbogecljkaimdaaGreatDoor
