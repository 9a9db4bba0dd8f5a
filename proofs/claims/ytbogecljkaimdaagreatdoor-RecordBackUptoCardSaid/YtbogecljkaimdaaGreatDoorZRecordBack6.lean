/-
  Texts put together (6).
-/
import Derived.Test.YtbogecljkaimdaaGreatDoorZRecordBack5
namespace Go.Sl
noncomputable def may1 (r : Rec) : Bool := zGq r.name && decide (1 ≤ r.many ∧ r.many ≤ 120)
noncomputable def may3 (r : Rec) : Bool := risB r.keep 1 1048576
noncomputable def may4 (r : Rec) : Bool := decide (1 ≤ r.object ∧ r.object ≤ 1048576) && (decide (0 < r.keep.length) && risB r.keep (-1) 255)
noncomputable def may5 (r : Rec) : Bool := decide (1 ≤ r.object ∧ r.object ≤ 1048576) && (decide (-1 ≤ r.at_ ∧ r.at_ ≤ 255) && decide (1 ≤ (r.data.length : Int) ∧ (r.data.length : Int) ≤ 256))
noncomputable def may6 (r : Rec) : Bool := decide (1 ≤ r.many ∧ r.many ≤ 1048576)
def zCx (r : Rec) : Bool := decide (r.name = []) && (decide (r.snap = []) && (decide (r.typ = 0) && (decide (r.frm = 0) && (decide (r.guid = 0) && (decide (r.origin = 0) && (decide (r.object = 0) && (decide (r.at_ = 0) && (decide (r.many = 0) &&
  decide (r.props.length + r.keep.length + r.data.length = 0)))))))))
def zDq (r : Rec) : Rec :=
  if r.kind = 1 then { r with name := [], many := 0 } else if r.kind = 2 then { r with name := [], typ := 0, frm := 0, guid := 0, origin := 0, snap := [], props := [] }
  else if r.kind = 3 then { r with keep := [] } else if r.kind = 4 then { r with object := 0, keep := [] } else if r.kind = 5 then { r with object := 0, at_ := 0, data := [] } else { r with many := 0 }
end Go.Sl
namespace Go.Proofs.YtbogecljkaimdaaGreatDoor
open Go.Sl
set_option maxRecDepth 10000
section
variable {C : zAs} {r : Rec} {pv kv dv : Value} (hR : RecR C r pv kv dv) (hs : Sml r) {As : List zAs} (hC : C ∈ As) (w0 : World) (H : Hp w0 As)
include hR hs hC H
theorem may1_ret : Ret Tryz.prog 47 #[.agg (r.cells pv kv dv).toArray] w0 fun u w' => u = .bool (may1 r) ∧ Trs w0 w' As As := by
  have _ := hR
  have _ := hC
  have S := St.begin H
  have := hs.name
  refine zDh 11 Tryz.func47 rfl rfl (by decide) ?_; intro a E
  refine wp_seq_k ?_; intro K hK
  refine zAa ?_
  refine zAm rfl (zCk E S rfl rfl (by decide) rfl rfl ?_); clear E S a; intro a w b1 E S
  refine zp E (zAe E rfl rfl) ?_; clear E a; intro a E
  refine wpList_nil ?_
  refine zAf hK ?_; clear hK; clear K
  refine wp_seq_k ?_; intro K hK
  refine zAa ?_
  refine zp E (by first | exact zAg (q := 1) E rfl rfl rfl | exact zAh (q := 1) E rfl rfl rfl) ?_; clear E a; intro a E
  refine zp E (by first | exact zAq E rfl rfl rfl (S.get (by repeat (first | exact pk1 | apply zAc))) rfl | exact zAl E rfl rfl rfl (by assumption)) ?_; clear E a; intro a E
  refine zAn E rfl rfl (by decide) rfl Tryz.func48 rfl (by kernel_rfl) rfl (zHl r.name (by omega) _ _ S.hp) ?_
  rintro v5 w ⟨rfl, hT⟩; clear E a; intro a E
  have S := S.all hT
  refine zp E (zAd E rfl rfl) ?_; clear E a; intro a E
  refine zAw E (t := 6) rfl (fun hb6 => ?_) (fun hb6 => ?_)
  · have hb6n := hb6; replace hb6n := Nrm.nrm hb6n
    refine zy E hb6 (by first | exact zAg (q := 10) E rfl rfl rfl | exact zAh (q := 10) E rfl rfl rfl) ?_; clear E a; intro a E
    refine zy E hb6 (by first | exact zAq E rfl rfl rfl (S.get (by repeat (first | exact pk1 | apply zAc))) rfl | exact zAl E rfl rfl rfl (by assumption)) ?_; clear E a; intro a E
    refine zBu E rfl rfl rfl rfl hb6 ?_; refine zCm E rfl (by decide) rfl Tryz.func49 rfl (by kernel_rfl) rfl (zDn r.many 1 120 _ _ S.hp) ?_
    rintro v9 w ⟨rfl, hT⟩; clear E a; intro a E
    have S := S.all hT
    refine zp E (zAk E rfl rfl hb6 rfl) ?_; clear E a; intro a E
    refine zp E (zAe E rfl rfl) ?_; clear E a; intro a E
    refine wpList_nil ?_
    refine zAf hK ?_; clear hK; clear K
    refine wp_ret ?_
    refine ret1 E rfl rfl ?_
    exact ⟨_, rfl, by simp [may1, hb6], S.tail.tr⟩
  · have hb6n := hb6; replace hb6n := Nrm.nrm hb6n
    iterate 3 (refine zn E hb6 ?_; clear E a; intro a E)
    refine zp E (zAj E rfl rfl hb6 rfl) ?_; clear E a; intro a E
    refine zp E (zAe E rfl rfl) ?_; clear E a; intro a E
    refine wpList_nil ?_
    refine zAf hK ?_; clear hK; clear K
    refine wp_ret ?_
    refine ret1 E rfl rfl ?_
    exact ⟨_, rfl, by simp [may1, hb6], S.tail.tr⟩
theorem may3_ret : Ret Tryz.prog 55 #[.agg (r.cells pv kv dv).toArray] w0 fun u w' => u = .bool (may3 r) ∧ Trs w0 w' As As := by
  have S := St.begin H
  have := hs.keep
  refine zDh 6 Tryz.func55 rfl rfl (by decide) ?_; intro a E
  refine wp_seq_k ?_; intro K hK
  refine zAa ?_
  refine zAm rfl (zCk E S rfl rfl (by decide) rfl rfl ?_); clear E S a; intro a w b1 E S
  refine zp E (zAe E rfl rfl) ?_; clear E a; intro a E
  refine wpList_nil ?_
  refine zAf hK ?_; clear hK; clear K
  refine wp_seq_k ?_; intro K hK
  refine zAa ?_
  refine zp E (by first | exact zAg (q := 11) E rfl rfl rfl | exact zAh (q := 11) E rfl rfl rfl) ?_; clear E a; intro a E
  refine zp E (by first | exact zAq E rfl rfl rfl (S.get (by repeat (first | exact pk1 | apply zAc))) rfl | exact zAl E rfl rfl rfl (by assumption)) ?_; clear E a; intro a E
  refine zAn E rfl rfl (by decide) rfl Tryz.func56 rfl (by kernel_rfl) rfl (ris_ret C kv r.keep hR.kr (by omega) 1 1048576 _ (List.mem_cons_of_mem _ hC) _ S.hp) ?_
  rintro v5 w ⟨rfl, hT⟩; clear E a; intro a E
  have S := S.all hT
  refine zp E (zAe E rfl rfl) ?_; clear E a; intro a E
  refine wpList_nil ?_
  refine zAf hK ?_; clear hK; clear K
  refine wp_ret ?_
  refine ret1 E rfl rfl ?_
  exact ⟨_, rfl, rfl, S.tail.tr⟩
theorem may4_ret : Ret Tryz.prog 61 #[.agg (r.cells pv kv dv).toArray] w0 fun u w' => u = .bool (may4 r) ∧ Trs w0 w' As As := by
  have S := St.begin H
  have := hs.keep
  have hk := hR.kr
  obtain ⟨ad, c, rfl⟩ := hk.slice
  refine zDh 17 Tryz.func61 rfl rfl (by decide) ?_; intro a E
  refine wp_seq_k ?_; intro K hK
  refine zAa ?_
  refine zAm rfl (zCk E S rfl rfl (by decide) rfl rfl ?_); clear E S a; intro a w b1 E S
  refine zp E (zAe E rfl rfl) ?_; clear E a; intro a E
  refine wpList_nil ?_
  refine zAf hK ?_; clear hK; clear K
  refine wp_seq_k ?_; intro K hK
  refine zAa ?_
  refine zp E (by first | exact zAg (q := 8) E rfl rfl rfl | exact zAh (q := 8) E rfl rfl rfl) ?_; clear E a; intro a E
  refine zp E (by first | exact zAq E rfl rfl rfl (S.get (by repeat (first | exact pk1 | apply zAc))) rfl | exact zAl E rfl rfl rfl (by assumption)) ?_; clear E a; intro a E
  refine zAn E rfl rfl (by decide) rfl Tryz.func49 rfl (by kernel_rfl) rfl (zDn r.object 1 1048576 _ _ S.hp) ?_
  rintro v5 w ⟨rfl, hT⟩; clear E a; intro a E
  have S := S.all hT
  refine zp E (zAd E rfl rfl) ?_; clear E a; intro a E
  refine zAw E (t := 6) rfl (fun hb6 => ?_) (fun hb6 => ?_)
  · have hb6n := hb6; replace hb6n := Nrm.nrm hb6n
    refine zy E hb6 (by first | exact zAg (q := 11) E rfl rfl rfl | exact zAh (q := 11) E rfl rfl rfl) ?_; clear E a; intro a E
    refine zy E hb6 (by first | exact zAq E rfl rfl rfl (S.get (by repeat (first | exact pk1 | apply zAc))) rfl | exact zAl E rfl rfl rfl (by assumption)) ?_; clear E a; intro a E
    refine zy E hb6 (by first | exact zBv E rfl rfl rfl | exact zAx E rfl rfl rfl | exact zAp E rfl rfl rfl) ?_; clear E a; intro a E
    refine zy E hb6 (zEi E rfl rfl rfl) ?_; clear E a; intro a E
    refine zp E (zAk E rfl rfl hb6 rfl) ?_; clear E a; intro a E
    refine zp E (zAd E rfl rfl) ?_; clear E a; intro a E
    refine zAw E (t := 12) rfl (fun hb12 => ?_) (fun hb12 => ?_)
    · have hb12n := hb12; replace hb12n := Nrm.nrm hb12n
      refine zy E hb12 (by first | exact zAg (q := 11) E rfl rfl rfl | exact zAh (q := 11) E rfl rfl rfl) ?_; clear E a; intro a E
      refine zy E hb12 (by first | exact zAq E rfl rfl rfl (S.get (by repeat (first | exact pk1 | apply zAc))) rfl | exact zAl E rfl rfl rfl (by assumption)) ?_; clear E a; intro a E
      refine zBu E rfl rfl rfl rfl hb12 ?_; refine zCm E rfl (by decide) rfl Tryz.func56 rfl (by kernel_rfl) rfl (ris_ret C _ r.keep hk (by omega) (-1) 255 _ (List.mem_cons_of_mem _ hC) _ S.hp) ?_
      rintro v15 w ⟨rfl, hT⟩; clear E a; intro a E
      have S := S.all hT
      refine zp E (zAk E rfl rfl hb12 rfl) ?_; clear E a; intro a E
      refine zp E (zAe E rfl rfl) ?_; clear E a; intro a E
      refine wpList_nil ?_
      refine zAf hK ?_; clear hK; clear K
      refine wp_ret ?_
      refine ret1 E rfl rfl ?_
      exact ⟨_, rfl, by congr 1; simp only [may4]; simp_all <;> (intros; omega), S.tail.tr⟩
    · have hb12n := hb12; replace hb12n := Nrm.nrm hb12n
      iterate 3 (refine zn E hb12 ?_; clear E a; intro a E)
      refine zp E (zAj E rfl rfl hb12 rfl) ?_; clear E a; intro a E
      refine zp E (zAe E rfl rfl) ?_; clear E a; intro a E
      refine wpList_nil ?_
      refine zAf hK ?_; clear hK; clear K
      refine wp_ret ?_
      refine ret1 E rfl rfl ?_
      exact ⟨_, rfl, by congr 1; simp only [may4]; simp_all <;> (intros; omega), S.tail.tr⟩
  · have hb6n := hb6; replace hb6n := Nrm.nrm hb6n
    iterate 4 (refine zn E hb6 ?_; clear E a; intro a E)
    refine zp E (zAj E rfl rfl hb6 rfl) ?_; clear E a; intro a E
    refine zp E (zAd E rfl rfl) ?_; clear E a; intro a E
    iterate 3 (refine zn E rfl ?_; clear E a; intro a E)
    refine zp E (zAj E rfl rfl rfl rfl) ?_; clear E a; intro a E
    refine zp E (zAe E rfl rfl) ?_; clear E a; intro a E
    refine wpList_nil ?_
    refine zAf hK ?_; clear hK; clear K
    refine wp_ret ?_
    refine ret1 E rfl rfl ?_
    exact ⟨_, rfl, by congr 1; simp only [may4]; simp_all <;> (intros; omega), S.tail.tr⟩
theorem may5_ret : Ret Tryz.prog 64 #[.agg (r.cells pv kv dv).toArray] w0 fun u w' => u = .bool (may5 r) ∧ Trs w0 w' As As := by
  have _ := hs
  have _ := hC
  have S := St.begin H
  have hk := hR.dr
  obtain ⟨ad, c, rfl⟩ := hk.slice
  refine zDh 17 Tryz.func64 rfl rfl (by decide) ?_; intro a E
  refine wp_seq_k ?_; intro K hK
  refine zAa ?_
  refine zAm rfl (zCk E S rfl rfl (by decide) rfl rfl ?_); clear E S a; intro a w b1 E S
  refine zp E (zAe E rfl rfl) ?_; clear E a; intro a E
  refine wpList_nil ?_
  refine zAf hK ?_; clear hK; clear K
  refine wp_seq_k ?_; intro K hK
  refine zAa ?_
  refine zp E (by first | exact zAg (q := 8) E rfl rfl rfl | exact zAh (q := 8) E rfl rfl rfl) ?_; clear E a; intro a E
  refine zp E (by first | exact zAq E rfl rfl rfl (S.get (by repeat (first | exact pk1 | apply zAc))) rfl | exact zAl E rfl rfl rfl (by assumption)) ?_; clear E a; intro a E
  refine zAn E rfl rfl (by decide) rfl Tryz.func49 rfl (by kernel_rfl) rfl (zDn r.object 1 1048576 _ _ S.hp) ?_
  rintro v5 w ⟨rfl, hT⟩; clear E a; intro a E
  have S := S.all hT
  refine zp E (zAd E rfl rfl) ?_; clear E a; intro a E
  refine zAw E (t := 6) rfl (fun hb6 => ?_) (fun hb6 => ?_)
  · have hb6n := hb6; replace hb6n := Nrm.nrm hb6n
    refine zy E hb6 (by first | exact zAg (q := 9) E rfl rfl rfl | exact zAh (q := 9) E rfl rfl rfl) ?_; clear E a; intro a E
    refine zy E hb6 (by first | exact zAq E rfl rfl rfl (S.get (by repeat (first | exact pk1 | apply zAc))) rfl | exact zAl E rfl rfl rfl (by assumption)) ?_; clear E a; intro a E
    refine zBu E rfl rfl rfl rfl hb6 ?_; refine zCm E rfl (by decide) rfl Tryz.func49 rfl (by kernel_rfl) rfl (zDn r.at_ (-1) 255 _ _ S.hp) ?_
    rintro v9 w ⟨rfl, hT⟩; clear E a; intro a E
    have S := S.all hT
    refine zp E (zAk E rfl rfl hb6 rfl) ?_; clear E a; intro a E
    refine zp E (zAd E rfl rfl) ?_; clear E a; intro a E
    refine zAw E (t := 11) rfl (fun hb11 => ?_) (fun hb11 => ?_)
    · have hb11n := hb11; replace hb11n := Nrm.nrm hb11n
      refine zy E hb11 (by first | exact zAg (q := 12) E rfl rfl rfl | exact zAh (q := 12) E rfl rfl rfl) ?_; clear E a; intro a E
      refine zy E hb11 (by first | exact zAq E rfl rfl rfl (S.get (by repeat (first | exact pk1 | apply zAc))) rfl | exact zAl E rfl rfl rfl (by assumption)) ?_; clear E a; intro a E
      refine zy E hb11 (by first | exact zBv E rfl rfl rfl | exact zAx E rfl rfl rfl | exact zAp E rfl rfl rfl) ?_; clear E a; intro a E
      refine zBu E rfl rfl rfl rfl hb11 ?_; refine zCm E rfl (by decide) rfl Tryz.func49 rfl (by kernel_rfl) rfl (zDn r.data.length 1 256 _ _ S.hp) ?_
      rintro v15 w ⟨rfl, hT⟩; clear E a; intro a E
      have S := S.all hT
      refine zp E (zAk E rfl rfl hb11 rfl) ?_; clear E a; intro a E
      refine zp E (zAe E rfl rfl) ?_; clear E a; intro a E
      refine wpList_nil ?_
      refine zAf hK ?_; clear hK; clear K
      refine wp_ret ?_
      refine ret1 E rfl rfl ?_
      exact ⟨_, rfl, by congr 1; simp only [may5]; simp_all <;> (intros; omega), S.tail.tr⟩
    · have hb11n := hb11; replace hb11n := Nrm.nrm hb11n
      iterate 4 (refine zn E hb11 ?_; clear E a; intro a E)
      refine zp E (zAj E rfl rfl hb11 rfl) ?_; clear E a; intro a E
      refine zp E (zAe E rfl rfl) ?_; clear E a; intro a E
      refine wpList_nil ?_
      refine zAf hK ?_; clear hK; clear K
      refine wp_ret ?_
      refine ret1 E rfl rfl ?_
      exact ⟨_, rfl, by congr 1; simp only [may5]; simp_all <;> (intros; omega), S.tail.tr⟩
  · have hb6n := hb6; replace hb6n := Nrm.nrm hb6n
    iterate 3 (refine zn E hb6 ?_; clear E a; intro a E)
    refine zp E (zAj E rfl rfl hb6 rfl) ?_; clear E a; intro a E
    refine zp E (zAd E rfl rfl) ?_; clear E a; intro a E
    iterate 4 (refine zn E rfl ?_; clear E a; intro a E)
    refine zp E (zAj E rfl rfl rfl rfl) ?_; clear E a; intro a E
    refine zp E (zAe E rfl rfl) ?_; clear E a; intro a E
    refine wpList_nil ?_
    refine zAf hK ?_; clear hK; clear K
    refine wp_ret ?_
    refine ret1 E rfl rfl ?_
    exact ⟨_, rfl, by congr 1; simp only [may5]; simp_all <;> (intros; omega), S.tail.tr⟩
theorem may6_ret : Ret Tryz.prog 99 #[.agg (r.cells pv kv dv).toArray] w0 fun u w' => u = .bool (may6 r) ∧ Trs w0 w' As As := by
  have _ := hR
  have _ := hs
  have _ := hC
  have S := St.begin H
  refine zDh 6 Tryz.func99 rfl rfl (by decide) ?_; intro a E
  refine wp_seq_k ?_; intro K hK
  refine zAa ?_
  refine zAm rfl (zCk E S rfl rfl (by decide) rfl rfl ?_); clear E S a; intro a w b1 E S
  refine zp E (zAe E rfl rfl) ?_; clear E a; intro a E
  refine wpList_nil ?_
  refine zAf hK ?_; clear hK; clear K
  refine wp_seq_k ?_; intro K hK
  refine zAa ?_
  refine zp E (by first | exact zAg (q := 10) E rfl rfl rfl | exact zAh (q := 10) E rfl rfl rfl) ?_; clear E a; intro a E
  refine zp E (by first | exact zAq E rfl rfl rfl (S.get (by repeat (first | exact pk1 | apply zAc))) rfl | exact zAl E rfl rfl rfl (by assumption)) ?_; clear E a; intro a E
  refine zAn E rfl rfl (by decide) rfl Tryz.func49 rfl (by kernel_rfl) rfl (zDn r.many 1 1048576 _ _ S.hp) ?_
  rintro v5 w ⟨rfl, hT⟩; clear E a; intro a E
  have S := S.all hT
  refine zp E (zAe E rfl rfl) ?_; clear E a; intro a E
  refine wpList_nil ?_
  refine zAf hK ?_; clear hK; clear K
  refine wp_ret ?_
  refine ret1 E rfl rfl ?_
  exact ⟨_, rfl, rfl, S.tail.tr⟩
omit hC in
theorem empty_ret : Ret Tryz.prog 26 #[.agg (r.cells pv kv dv).toArray] w0 fun u w' => u = .bool (zCx r) ∧ Trs w0 w' As As := by
  have S := St.begin H
  have h1 := hs.props
  have h2 := hs.keep
  have h3 := hs.data
  obtain ⟨ad1, c1, rfl⟩ := hR.pr.slice
  obtain ⟨ad2, c2, rfl⟩ := hR.kr.slice
  obtain ⟨ad3, c3, rfl⟩ := hR.dr.slice
  refine zDh 60 Tryz.func26 rfl rfl (by decide) ?_; intro a E
  refine wp_seq_k ?_; intro K hK
  refine zAa ?_
  refine zAm rfl (zCk E S rfl rfl (by decide) rfl rfl ?_); clear E S a; intro a w b1 E S
  refine zp E (zAe E rfl rfl) ?_; clear E a; intro a E
  refine wpList_nil ?_
  refine zAf hK ?_; clear hK; clear K
  refine wp_seq_k ?_; intro K hK
  refine zAa ?_
  refine zp E (by first | exact zAg (q := 1) E rfl rfl rfl | exact zAh (q := 1) E rfl rfl rfl) ?_; clear E a; intro a E
  refine zp E (by first | exact zAq E rfl rfl rfl (S.get (by repeat (first | exact pk1 | apply zAc))) rfl | exact zAl E rfl rfl rfl (by assumption)) ?_; clear E a; intro a E
  refine zp E (by first | exact zCe E rfl rfl rfl | exact zAt E rfl rfl rfl rfl | exact zAz E rfl rfl rfl rfl | exact zAu E rfl rfl rfl) ?_; clear E a; intro a E
  refine zp E (zAd E rfl rfl) ?_; clear E a; intro a E
  refine zAw E (t := 6) rfl (fun hb6 => ?_) (fun hb6 => ?_)
  · have hb6n := hb6; replace hb6n := Nrm.nrm hb6n
    refine zy E hb6 (by first | exact zAg (q := 6) E rfl rfl rfl | exact zAh (q := 6) E rfl rfl rfl) ?_; clear E a; intro a E
    refine zy E hb6 (by first | exact zAq E rfl rfl rfl (S.get (by repeat (first | exact pk1 | apply zAc))) rfl | exact zAl E rfl rfl rfl (by assumption)) ?_; clear E a; intro a E
    refine zy E hb6 (by first | exact zCe E rfl rfl rfl | exact zAt E rfl rfl rfl rfl | exact zAz E rfl rfl rfl rfl | exact zAu E rfl rfl rfl) ?_; clear E a; intro a E
    refine zp E (zAk E rfl rfl hb6 rfl) ?_; clear E a; intro a E
    refine zp E (zAd E rfl rfl) ?_; clear E a; intro a E
    refine zAw E (t := 11) rfl (fun hb11 => ?_) (fun hb11 => ?_)
    · have hb11n := hb11; replace hb11n := Nrm.nrm hb11n
      refine zy E hb11 (by first | exact zAg (q := 2) E rfl rfl rfl | exact zAh (q := 2) E rfl rfl rfl) ?_; clear E a; intro a E
      refine zy E hb11 (by first | exact zAq E rfl rfl rfl (S.get (by repeat (first | exact pk1 | apply zAc))) rfl | exact zAl E rfl rfl rfl (by assumption)) ?_; clear E a; intro a E
      refine zy E hb11 (by first | exact zCe E rfl rfl rfl | exact zAt E rfl rfl rfl rfl | exact zAz E rfl rfl rfl rfl | exact zAu E rfl rfl rfl) ?_; clear E a; intro a E
      refine zp E (zAk E rfl rfl hb11 rfl) ?_; clear E a; intro a E
      refine zp E (zAd E rfl rfl) ?_; clear E a; intro a E
      refine zAw E (t := 16) rfl (fun hb16 => ?_) (fun hb16 => ?_)
      · have hb16n := hb16; replace hb16n := Nrm.nrm hb16n
        refine zy E hb16 (by first | exact zAg (q := 3) E rfl rfl rfl | exact zAh (q := 3) E rfl rfl rfl) ?_; clear E a; intro a E
        refine zy E hb16 (by first | exact zAq E rfl rfl rfl (S.get (by repeat (first | exact pk1 | apply zAc))) rfl | exact zAl E rfl rfl rfl (by assumption)) ?_; clear E a; intro a E
        refine zy E hb16 (by first | exact zCe E rfl rfl rfl | exact zAt E rfl rfl rfl rfl | exact zAz E rfl rfl rfl rfl | exact zAu E rfl rfl rfl) ?_; clear E a; intro a E
        refine zp E (zAk E rfl rfl hb16 rfl) ?_; clear E a; intro a E
        refine zp E (zAd E rfl rfl) ?_; clear E a; intro a E
        refine zAw E (t := 21) rfl (fun hb21 => ?_) (fun hb21 => ?_)
        · have hb21n := hb21; replace hb21n := Nrm.nrm hb21n
          refine zy E hb21 (by first | exact zAg (q := 4) E rfl rfl rfl | exact zAh (q := 4) E rfl rfl rfl) ?_; clear E a; intro a E
          refine zy E hb21 (by first | exact zAq E rfl rfl rfl (S.get (by repeat (first | exact pk1 | apply zAc))) rfl | exact zAl E rfl rfl rfl (by assumption)) ?_; clear E a; intro a E
          refine zy E hb21 (by first | exact zCe E rfl rfl rfl | exact zAt E rfl rfl rfl rfl | exact zAz E rfl rfl rfl rfl | exact zAu E rfl rfl rfl) ?_; clear E a; intro a E
          refine zp E (zAk E rfl rfl hb21 rfl) ?_; clear E a; intro a E
          refine zp E (zAd E rfl rfl) ?_; clear E a; intro a E
          refine zAw E (t := 26) rfl (fun hb26 => ?_) (fun hb26 => ?_)
          · have hb26n := hb26; replace hb26n := Nrm.nrm hb26n
            refine zy E hb26 (by first | exact zAg (q := 5) E rfl rfl rfl | exact zAh (q := 5) E rfl rfl rfl) ?_; clear E a; intro a E
            refine zy E hb26 (by first | exact zAq E rfl rfl rfl (S.get (by repeat (first | exact pk1 | apply zAc))) rfl | exact zAl E rfl rfl rfl (by assumption)) ?_; clear E a; intro a E
            refine zy E hb26 (by first | exact zCe E rfl rfl rfl | exact zAt E rfl rfl rfl rfl | exact zAz E rfl rfl rfl rfl | exact zAu E rfl rfl rfl) ?_; clear E a; intro a E
            refine zp E (zAk E rfl rfl hb26 rfl) ?_; clear E a; intro a E
            refine zp E (zAd E rfl rfl) ?_; clear E a; intro a E
            refine zAw E (t := 31) rfl (fun hb31 => ?_) (fun hb31 => ?_)
            · have hb31n := hb31; replace hb31n := Nrm.nrm hb31n
              refine zy E hb31 (by first | exact zAg (q := 8) E rfl rfl rfl | exact zAh (q := 8) E rfl rfl rfl) ?_; clear E a; intro a E
              refine zy E hb31 (by first | exact zAq E rfl rfl rfl (S.get (by repeat (first | exact pk1 | apply zAc))) rfl | exact zAl E rfl rfl rfl (by assumption)) ?_; clear E a; intro a E
              refine zy E hb31 (by first | exact zCe E rfl rfl rfl | exact zAt E rfl rfl rfl rfl | exact zAz E rfl rfl rfl rfl | exact zAu E rfl rfl rfl) ?_; clear E a; intro a E
              refine zp E (zAk E rfl rfl hb31 rfl) ?_; clear E a; intro a E
              refine zp E (zAd E rfl rfl) ?_; clear E a; intro a E
              refine zAw E (t := 36) rfl (fun hb36 => ?_) (fun hb36 => ?_)
              · have hb36n := hb36; replace hb36n := Nrm.nrm hb36n
                refine zy E hb36 (by first | exact zAg (q := 9) E rfl rfl rfl | exact zAh (q := 9) E rfl rfl rfl) ?_; clear E a; intro a E
                refine zy E hb36 (by first | exact zAq E rfl rfl rfl (S.get (by repeat (first | exact pk1 | apply zAc))) rfl | exact zAl E rfl rfl rfl (by assumption)) ?_; clear E a; intro a E
                refine zy E hb36 (by first | exact zCe E rfl rfl rfl | exact zAt E rfl rfl rfl rfl | exact zAz E rfl rfl rfl rfl | exact zAu E rfl rfl rfl) ?_; clear E a; intro a E
                refine zp E (zAk E rfl rfl hb36 rfl) ?_; clear E a; intro a E
                refine zp E (zAd E rfl rfl) ?_; clear E a; intro a E
                refine zAw E (t := 41) rfl (fun hb41 => ?_) (fun hb41 => ?_)
                · have hb41n := hb41; replace hb41n := Nrm.nrm hb41n
                  refine zy E hb41 (by first | exact zAg (q := 10) E rfl rfl rfl | exact zAh (q := 10) E rfl rfl rfl) ?_; clear E a; intro a E
                  refine zy E hb41 (by first | exact zAq E rfl rfl rfl (S.get (by repeat (first | exact pk1 | apply zAc))) rfl | exact zAl E rfl rfl rfl (by assumption)) ?_; clear E a; intro a E
                  refine zy E hb41 (by first | exact zCe E rfl rfl rfl | exact zAt E rfl rfl rfl rfl | exact zAz E rfl rfl rfl rfl | exact zAu E rfl rfl rfl) ?_; clear E a; intro a E
                  refine zp E (zAk E rfl rfl hb41 rfl) ?_; clear E a; intro a E
                  refine zp E (zAd E rfl rfl) ?_; clear E a; intro a E
                  refine zAw E (t := 46) rfl (fun hb46 => ?_) (fun hb46 => ?_)
                  · have hb46n := hb46; replace hb46n := Nrm.nrm hb46n
                    refine zy E hb46 (by first | exact zAg (q := 7) E rfl rfl rfl | exact zAh (q := 7) E rfl rfl rfl) ?_; clear E a; intro a E
                    refine zy E hb46 (by first | exact zAq E rfl rfl rfl (S.get (by repeat (first | exact pk1 | apply zAc))) rfl | exact zAl E rfl rfl rfl (by assumption)) ?_; clear E a; intro a E
                    refine zy E hb46 (by first | exact zBv E rfl rfl rfl | exact zAx E rfl rfl rfl | exact zAp E rfl rfl rfl) ?_; clear E a; intro a E
                    refine zy E hb46 (by first | exact zAg (q := 11) E rfl rfl rfl | exact zAh (q := 11) E rfl rfl rfl) ?_; clear E a; intro a E
                    refine zy E hb46 (by first | exact zAq E rfl rfl rfl (S.get (by repeat (first | exact pk1 | apply zAc))) rfl | exact zAl E rfl rfl rfl (by assumption)) ?_; clear E a; intro a E
                    refine zy E hb46 (by first | exact zBv E rfl rfl rfl | exact zAx E rfl rfl rfl | exact zAp E rfl rfl rfl) ?_; clear E a; intro a E
                    refine zy E hb46 (zCc E rfl rfl rfl (by first | exact wa1 (by omega) | exact w_in (by omega) | exact zCb (by omega) | exact rfl)) ?_; clear E a; intro a E
                    refine zy E hb46 (by first | exact zAg (q := 12) E rfl rfl rfl | exact zAh (q := 12) E rfl rfl rfl) ?_; clear E a; intro a E
                    refine zy E hb46 (by first | exact zAq E rfl rfl rfl (S.get (by repeat (first | exact pk1 | apply zAc))) rfl | exact zAl E rfl rfl rfl (by assumption)) ?_; clear E a; intro a E
                    refine zy E hb46 (by first | exact zBv E rfl rfl rfl | exact zAx E rfl rfl rfl | exact zAp E rfl rfl rfl) ?_; clear E a; intro a E
                    refine zy E hb46 (zCc E rfl rfl rfl (by first | exact wa1 (by omega) | exact w_in (by omega) | exact zCb (by omega) | exact rfl)) ?_; clear E a; intro a E
                    refine zy E hb46 (by first | exact zCe E rfl rfl rfl | exact zAt E rfl rfl rfl rfl | exact zAz E rfl rfl rfl rfl | exact zAu E rfl rfl rfl) ?_; clear E a; intro a E
                    refine zp E (zAk E rfl rfl hb46 rfl) ?_; clear E a; intro a E
                    refine zp E (zAe E rfl rfl) ?_; clear E a; intro a E
                    refine wpList_nil ?_
                    refine zAf hK ?_; clear hK; clear K
                    refine wp_ret ?_
                    refine ret1 E rfl rfl ?_
                    refine ⟨_, rfl, ?_, S.tail.tr⟩
                    congr 1
                    clear S E H hR hs
                    unfold zCx
                    simp_all <;> first | (intros; omega) | (rw [Bool.eq_iff_iff]; simp only [beq_iff_eq, decide_eq_true_eq, Bool.and_eq_true, ← List.length_eq_zero_iff]; omega)
                  · have hb46n := hb46; replace hb46n := Nrm.nrm hb46n
                    iterate 12 (refine zn E hb46 ?_; clear E a; intro a E)
                    refine zp E (zAj E rfl rfl hb46 rfl) ?_; clear E a; intro a E
                    refine zp E (zAe E rfl rfl) ?_; clear E a; intro a E
                    refine wpList_nil ?_
                    refine zAf hK ?_; clear hK; clear K
                    refine wp_ret ?_
                    refine ret1 E rfl rfl ?_
                    refine ⟨_, rfl, ?_, S.tail.tr⟩
                    congr 1
                    clear S E H hR hs
                    unfold zCx
                    simp_all <;> first | (intros; omega) | (rw [Bool.eq_iff_iff]; simp only [beq_iff_eq, decide_eq_true_eq, Bool.and_eq_true, ← List.length_eq_zero_iff]; omega)
                · have hb41n := hb41; replace hb41n := Nrm.nrm hb41n
                  iterate 3 (refine zn E hb41 ?_; clear E a; intro a E)
                  refine zp E (zAj E rfl rfl hb41 rfl) ?_; clear E a; intro a E
                  refine zp E (zAd E rfl rfl) ?_; clear E a; intro a E
                  iterate 12 (refine zn E rfl ?_; clear E a; intro a E)
                  refine zp E (zAj E rfl rfl rfl rfl) ?_; clear E a; intro a E
                  refine zp E (zAe E rfl rfl) ?_; clear E a; intro a E
                  refine wpList_nil ?_
                  refine zAf hK ?_; clear hK; clear K
                  refine wp_ret ?_
                  refine ret1 E rfl rfl ?_
                  refine ⟨_, rfl, ?_, S.tail.tr⟩
                  congr 1
                  clear S E H hR hs
                  unfold zCx
                  simp_all <;> first | (intros; omega) | (rw [Bool.eq_iff_iff]; simp only [beq_iff_eq, decide_eq_true_eq, Bool.and_eq_true, ← List.length_eq_zero_iff]; omega)
              · have hb36n := hb36; replace hb36n := Nrm.nrm hb36n
                iterate 3 (refine zn E hb36 ?_; clear E a; intro a E)
                refine zp E (zAj E rfl rfl hb36 rfl) ?_; clear E a; intro a E
                refine zp E (zAd E rfl rfl) ?_; clear E a; intro a E
                iterate 3 (refine zn E rfl ?_; clear E a; intro a E)
                refine zp E (zAj E rfl rfl rfl rfl) ?_; clear E a; intro a E
                refine zp E (zAd E rfl rfl) ?_; clear E a; intro a E
                iterate 12 (refine zn E rfl ?_; clear E a; intro a E)
                refine zp E (zAj E rfl rfl rfl rfl) ?_; clear E a; intro a E
                refine zp E (zAe E rfl rfl) ?_; clear E a; intro a E
                refine wpList_nil ?_
                refine zAf hK ?_; clear hK; clear K
                refine wp_ret ?_
                refine ret1 E rfl rfl ?_
                refine ⟨_, rfl, ?_, S.tail.tr⟩
                congr 1
                clear S E H hR hs
                unfold zCx
                simp_all <;> first | (intros; omega) | (rw [Bool.eq_iff_iff]; simp only [beq_iff_eq, decide_eq_true_eq, Bool.and_eq_true, ← List.length_eq_zero_iff]; omega)
            · have hb31n := hb31; replace hb31n := Nrm.nrm hb31n
              iterate 3 (refine zn E hb31 ?_; clear E a; intro a E)
              refine zp E (zAj E rfl rfl hb31 rfl) ?_; clear E a; intro a E
              refine zp E (zAd E rfl rfl) ?_; clear E a; intro a E
              iterate 3 (refine zn E rfl ?_; clear E a; intro a E)
              refine zp E (zAj E rfl rfl rfl rfl) ?_; clear E a; intro a E
              refine zp E (zAd E rfl rfl) ?_; clear E a; intro a E
              iterate 3 (refine zn E rfl ?_; clear E a; intro a E)
              refine zp E (zAj E rfl rfl rfl rfl) ?_; clear E a; intro a E
              refine zp E (zAd E rfl rfl) ?_; clear E a; intro a E
              iterate 12 (refine zn E rfl ?_; clear E a; intro a E)
              refine zp E (zAj E rfl rfl rfl rfl) ?_; clear E a; intro a E
              refine zp E (zAe E rfl rfl) ?_; clear E a; intro a E
              refine wpList_nil ?_
              refine zAf hK ?_; clear hK; clear K
              refine wp_ret ?_
              refine ret1 E rfl rfl ?_
              refine ⟨_, rfl, ?_, S.tail.tr⟩
              congr 1
              clear S E H hR hs
              unfold zCx
              simp_all <;> first | (intros; omega) | (rw [Bool.eq_iff_iff]; simp only [beq_iff_eq, decide_eq_true_eq, Bool.and_eq_true, ← List.length_eq_zero_iff]; omega)
          · have hb26n := hb26; replace hb26n := Nrm.nrm hb26n
            iterate 3 (refine zn E hb26 ?_; clear E a; intro a E)
            refine zp E (zAj E rfl rfl hb26 rfl) ?_; clear E a; intro a E
            refine zp E (zAd E rfl rfl) ?_; clear E a; intro a E
            iterate 3 (refine zn E rfl ?_; clear E a; intro a E)
            refine zp E (zAj E rfl rfl rfl rfl) ?_; clear E a; intro a E
            refine zp E (zAd E rfl rfl) ?_; clear E a; intro a E
            iterate 3 (refine zn E rfl ?_; clear E a; intro a E)
            refine zp E (zAj E rfl rfl rfl rfl) ?_; clear E a; intro a E
            refine zp E (zAd E rfl rfl) ?_; clear E a; intro a E
            iterate 3 (refine zn E rfl ?_; clear E a; intro a E)
            refine zp E (zAj E rfl rfl rfl rfl) ?_; clear E a; intro a E
            refine zp E (zAd E rfl rfl) ?_; clear E a; intro a E
            iterate 12 (refine zn E rfl ?_; clear E a; intro a E)
            refine zp E (zAj E rfl rfl rfl rfl) ?_; clear E a; intro a E
            refine zp E (zAe E rfl rfl) ?_; clear E a; intro a E
            refine wpList_nil ?_
            refine zAf hK ?_; clear hK; clear K
            refine wp_ret ?_
            refine ret1 E rfl rfl ?_
            refine ⟨_, rfl, ?_, S.tail.tr⟩
            congr 1
            clear S E H hR hs
            unfold zCx
            simp_all <;> first | (intros; omega) | (rw [Bool.eq_iff_iff]; simp only [beq_iff_eq, decide_eq_true_eq, Bool.and_eq_true, ← List.length_eq_zero_iff]; omega)
        · have hb21n := hb21; replace hb21n := Nrm.nrm hb21n
          iterate 3 (refine zn E hb21 ?_; clear E a; intro a E)
          refine zp E (zAj E rfl rfl hb21 rfl) ?_; clear E a; intro a E
          refine zp E (zAd E rfl rfl) ?_; clear E a; intro a E
          iterate 3 (refine zn E rfl ?_; clear E a; intro a E)
          refine zp E (zAj E rfl rfl rfl rfl) ?_; clear E a; intro a E
          refine zp E (zAd E rfl rfl) ?_; clear E a; intro a E
          iterate 3 (refine zn E rfl ?_; clear E a; intro a E)
          refine zp E (zAj E rfl rfl rfl rfl) ?_; clear E a; intro a E
          refine zp E (zAd E rfl rfl) ?_; clear E a; intro a E
          iterate 3 (refine zn E rfl ?_; clear E a; intro a E)
          refine zp E (zAj E rfl rfl rfl rfl) ?_; clear E a; intro a E
          refine zp E (zAd E rfl rfl) ?_; clear E a; intro a E
          iterate 3 (refine zn E rfl ?_; clear E a; intro a E)
          refine zp E (zAj E rfl rfl rfl rfl) ?_; clear E a; intro a E
          refine zp E (zAd E rfl rfl) ?_; clear E a; intro a E
          iterate 12 (refine zn E rfl ?_; clear E a; intro a E)
          refine zp E (zAj E rfl rfl rfl rfl) ?_; clear E a; intro a E
          refine zp E (zAe E rfl rfl) ?_; clear E a; intro a E
          refine wpList_nil ?_
          refine zAf hK ?_; clear hK; clear K
          refine wp_ret ?_
          refine ret1 E rfl rfl ?_
          refine ⟨_, rfl, ?_, S.tail.tr⟩
          congr 1
          clear S E H hR hs
          unfold zCx
          simp_all <;> first | (intros; omega) | (rw [Bool.eq_iff_iff]; simp only [beq_iff_eq, decide_eq_true_eq, Bool.and_eq_true, ← List.length_eq_zero_iff]; omega)
      · have hb16n := hb16; replace hb16n := Nrm.nrm hb16n
        iterate 3 (refine zn E hb16 ?_; clear E a; intro a E)
        refine zp E (zAj E rfl rfl hb16 rfl) ?_; clear E a; intro a E
        refine zp E (zAd E rfl rfl) ?_; clear E a; intro a E
        iterate 3 (refine zn E rfl ?_; clear E a; intro a E)
        refine zp E (zAj E rfl rfl rfl rfl) ?_; clear E a; intro a E
        refine zp E (zAd E rfl rfl) ?_; clear E a; intro a E
        iterate 3 (refine zn E rfl ?_; clear E a; intro a E)
        refine zp E (zAj E rfl rfl rfl rfl) ?_; clear E a; intro a E
        refine zp E (zAd E rfl rfl) ?_; clear E a; intro a E
        iterate 3 (refine zn E rfl ?_; clear E a; intro a E)
        refine zp E (zAj E rfl rfl rfl rfl) ?_; clear E a; intro a E
        refine zp E (zAd E rfl rfl) ?_; clear E a; intro a E
        iterate 3 (refine zn E rfl ?_; clear E a; intro a E)
        refine zp E (zAj E rfl rfl rfl rfl) ?_; clear E a; intro a E
        refine zp E (zAd E rfl rfl) ?_; clear E a; intro a E
        iterate 3 (refine zn E rfl ?_; clear E a; intro a E)
        refine zp E (zAj E rfl rfl rfl rfl) ?_; clear E a; intro a E
        refine zp E (zAd E rfl rfl) ?_; clear E a; intro a E
        iterate 12 (refine zn E rfl ?_; clear E a; intro a E)
        refine zp E (zAj E rfl rfl rfl rfl) ?_; clear E a; intro a E
        refine zp E (zAe E rfl rfl) ?_; clear E a; intro a E
        refine wpList_nil ?_
        refine zAf hK ?_; clear hK; clear K
        refine wp_ret ?_
        refine ret1 E rfl rfl ?_
        refine ⟨_, rfl, ?_, S.tail.tr⟩
        congr 1
        clear S E H hR hs
        unfold zCx
        simp_all <;> first | (intros; omega) | (rw [Bool.eq_iff_iff]; simp only [beq_iff_eq, decide_eq_true_eq, Bool.and_eq_true, ← List.length_eq_zero_iff]; omega)
    · have hb11n := hb11; replace hb11n := Nrm.nrm hb11n
      iterate 3 (refine zn E hb11 ?_; clear E a; intro a E)
      refine zp E (zAj E rfl rfl hb11 rfl) ?_; clear E a; intro a E
      refine zp E (zAd E rfl rfl) ?_; clear E a; intro a E
      iterate 3 (refine zn E rfl ?_; clear E a; intro a E)
      refine zp E (zAj E rfl rfl rfl rfl) ?_; clear E a; intro a E
      refine zp E (zAd E rfl rfl) ?_; clear E a; intro a E
      iterate 3 (refine zn E rfl ?_; clear E a; intro a E)
      refine zp E (zAj E rfl rfl rfl rfl) ?_; clear E a; intro a E
      refine zp E (zAd E rfl rfl) ?_; clear E a; intro a E
      iterate 3 (refine zn E rfl ?_; clear E a; intro a E)
      refine zp E (zAj E rfl rfl rfl rfl) ?_; clear E a; intro a E
      refine zp E (zAd E rfl rfl) ?_; clear E a; intro a E
      iterate 3 (refine zn E rfl ?_; clear E a; intro a E)
      refine zp E (zAj E rfl rfl rfl rfl) ?_; clear E a; intro a E
      refine zp E (zAd E rfl rfl) ?_; clear E a; intro a E
      iterate 3 (refine zn E rfl ?_; clear E a; intro a E)
      refine zp E (zAj E rfl rfl rfl rfl) ?_; clear E a; intro a E
      refine zp E (zAd E rfl rfl) ?_; clear E a; intro a E
      iterate 3 (refine zn E rfl ?_; clear E a; intro a E)
      refine zp E (zAj E rfl rfl rfl rfl) ?_; clear E a; intro a E
      refine zp E (zAd E rfl rfl) ?_; clear E a; intro a E
      iterate 12 (refine zn E rfl ?_; clear E a; intro a E)
      refine zp E (zAj E rfl rfl rfl rfl) ?_; clear E a; intro a E
      refine zp E (zAe E rfl rfl) ?_; clear E a; intro a E
      refine wpList_nil ?_
      refine zAf hK ?_; clear hK; clear K
      refine wp_ret ?_
      refine ret1 E rfl rfl ?_
      refine ⟨_, rfl, ?_, S.tail.tr⟩
      congr 1
      clear S E H hR hs
      unfold zCx
      simp_all <;> first | (intros; omega) | (rw [Bool.eq_iff_iff]; simp only [beq_iff_eq, decide_eq_true_eq, Bool.and_eq_true, ← List.length_eq_zero_iff]; omega)
  · have hb6n := hb6; replace hb6n := Nrm.nrm hb6n
    iterate 3 (refine zn E hb6 ?_; clear E a; intro a E)
    refine zp E (zAj E rfl rfl hb6 rfl) ?_; clear E a; intro a E
    refine zp E (zAd E rfl rfl) ?_; clear E a; intro a E
    iterate 3 (refine zn E rfl ?_; clear E a; intro a E)
    refine zp E (zAj E rfl rfl rfl rfl) ?_; clear E a; intro a E
    refine zp E (zAd E rfl rfl) ?_; clear E a; intro a E
    iterate 3 (refine zn E rfl ?_; clear E a; intro a E)
    refine zp E (zAj E rfl rfl rfl rfl) ?_; clear E a; intro a E
    refine zp E (zAd E rfl rfl) ?_; clear E a; intro a E
    iterate 3 (refine zn E rfl ?_; clear E a; intro a E)
    refine zp E (zAj E rfl rfl rfl rfl) ?_; clear E a; intro a E
    refine zp E (zAd E rfl rfl) ?_; clear E a; intro a E
    iterate 3 (refine zn E rfl ?_; clear E a; intro a E)
    refine zp E (zAj E rfl rfl rfl rfl) ?_; clear E a; intro a E
    refine zp E (zAd E rfl rfl) ?_; clear E a; intro a E
    iterate 3 (refine zn E rfl ?_; clear E a; intro a E)
    refine zp E (zAj E rfl rfl rfl rfl) ?_; clear E a; intro a E
    refine zp E (zAd E rfl rfl) ?_; clear E a; intro a E
    iterate 3 (refine zn E rfl ?_; clear E a; intro a E)
    refine zp E (zAj E rfl rfl rfl rfl) ?_; clear E a; intro a E
    refine zp E (zAd E rfl rfl) ?_; clear E a; intro a E
    iterate 3 (refine zn E rfl ?_; clear E a; intro a E)
    refine zp E (zAj E rfl rfl rfl rfl) ?_; clear E a; intro a E
    refine zp E (zAd E rfl rfl) ?_; clear E a; intro a E
    iterate 12 (refine zn E rfl ?_; clear E a; intro a E)
    refine zp E (zAj E rfl rfl rfl rfl) ?_; clear E a; intro a E
    refine zp E (zAe E rfl rfl) ?_; clear E a; intro a E
    refine wpList_nil ?_
    refine zAf hK ?_; clear hK; clear K
    refine wp_ret ?_
    refine ret1 E rfl rfl ?_
    refine ⟨_, rfl, ?_, S.tail.tr⟩
    congr 1
    clear S E H hR hs
    unfold zCx
    simp_all <;> first | (intros; omega) | (rw [Bool.eq_iff_iff]; simp only [beq_iff_eq, decide_eq_true_eq, Bool.and_eq_true, ← List.length_eq_zero_iff]; omega)
theorem begin_ret : Ret Tryz.prog 96 #[.agg (r.cells pv kv dv).toArray] w0 fun u w' => u = .bool (begB r) ∧ Trs w0 w' As As := by
  have S := St.begin H
  have h1 := hs.name
  have h2 := hs.snap
  refine zDh 60 Tryz.func96 rfl rfl (by decide) ?_; intro a E
  refine wp_seq_k ?_; intro K hK
  refine zAa ?_
  refine zAm rfl (zCk E S rfl rfl (by decide) rfl rfl ?_); clear E S a; intro a w b1 E S
  refine zp E (zAe E rfl rfl) ?_; clear E a; intro a E
  refine wpList_nil ?_
  refine zAf hK ?_; clear hK; clear K
  refine wp_seq_k ?_; intro K hK
  obtain ⟨nm, hnm⟩ : ∃ nm, nm = r.name := ⟨_, rfl⟩
  have hcells : r.cells pv kv dv = [.int .i64 r.kind, str nm, .int .i64 r.typ, .int .i64 r.frm, .int .i64 r.guid, .int .i64 r.origin, str r.snap, pv, .int .i64 r.object, .int .i64 r.at_, .int .i64 r.many, kv, dv] := (by rw [hnm]; rfl)
  rw [hcells] at S
  refine zJa (fun (a : Act) (w' : World) => St w0 As w' ([(b1, cel [.int .i64 r.kind, str nm, .int .i64 r.typ, .int .i64 r.frm, .int .i64 r.guid, .int .i64 r.origin, str r.snap, pv, .int .i64 r.object, .int .i64 r.at_, .int .i64 r.many, kv, dv] 26)] :: As) ∧ Fr a 60 [(1, ptr b1), (3, .bool (behB nm))]) ?_ ?_
  · skip
    refine zAa ?_
    refine zp E (by first | exact zAg (q := 1) E rfl rfl rfl | exact zAh (q := 1) E rfl rfl rfl) ?_; clear E a; intro a E
    refine zp E (by first | exact zAq E rfl rfl rfl (S.get (by repeat (first | exact pk1 | apply zAc))) rfl | exact zAl E rfl rfl rfl (by assumption)) ?_; clear E a; intro a E
    refine zp E (by first | exact zCe E rfl rfl rfl | exact zAt E rfl rfl rfl rfl | exact zAz E rfl rfl rfl rfl | exact zAu E rfl rfl rfl) ?_; clear E a; intro a E
    refine zp E (zAd E rfl rfl) ?_; clear E a; intro a E
    refine zAw E (t := 7) rfl (fun hb7 => ?_) (fun hb7 => ?_)
    · have hb7n := hb7; replace hb7n := Nrm.nrm hb7n
      iterate 5 (refine zn E hb7 ?_; clear E a; intro a E)
      iterate 4 (refine zu E ?_; clear E a; intro a E)
      refine zn E hb7 ?_; clear E a; intro a E
      refine zp E (zAk E rfl rfl hb7 rfl) ?_; clear E a; intro a E
      refine zp E (zAe E rfl rfl) ?_; clear E a; intro a E
      refine wpList_nil ?_
      refine zCf ?_
      subst hb7n; exact ⟨S, E.keep (zAb rfl (zAb rfl zAr))⟩
    · have hb7n := hb7; replace hb7n := Nrm.nrm hb7n
      obtain ⟨c0, tl, rfl⟩ := List.exists_cons_of_ne_nil hb7n
      refine zy E hb7 (by first | exact zAg (q := 1) E rfl rfl rfl | exact zAh (q := 1) E rfl rfl rfl) ?_; clear E a; intro a E
      refine zy E hb7 (by first | exact zAq E rfl rfl rfl (S.get (by repeat (first | exact pk1 | apply zAc))) rfl | exact zAl E rfl rfl rfl (by assumption)) ?_; clear E a; intro a E
      refine zy E hb7 (zDy (l := c0 :: tl) (i := 0) E rfl rfl rfl rfl rfl (Nat.succ_pos _)) ?_; clear E a; intro a E
      refine zy E hb7 (by first | exact zCe E rfl rfl rfl | exact zAt E rfl rfl rfl rfl | exact zAz E rfl rfl rfl rfl | exact zAu E rfl rfl rfl) ?_; clear E a; intro a E
      refine zy E hb7 (zAd E rfl rfl) ?_; clear E a; intro a E
      refine zAw E (t := 12) rfl (fun hb12 => ?_) (fun hb12 => ?_)
      · have hb12n := hb12; replace hb12n := Nrm.nrm hb12n
        refine zy E hb12 (by first | exact zAg (q := 1) E rfl rfl rfl | exact zAh (q := 1) E rfl rfl rfl) ?_; clear E a; intro a E
        refine zy E hb12 (by first | exact zAq E rfl rfl rfl (S.get (by repeat (first | exact pk1 | apply zAc))) rfl | exact zAl E rfl rfl rfl (by assumption)) ?_; clear E a; intro a E
        refine zy E hb12 (rn_cat E rfl rfl rfl (by rw [← hnm] at h1; simp only [List.length_cons, List.length_nil] at *; omega)) ?_; clear E a; intro a E
        refine zBu E rfl rfl rfl rfl hb12 ?_; refine zCm E rfl (by decide) rfl Tryz.func115 rfl (by kernel_rfl) rfl (name_ret (120 :: c0 :: tl) (by rw [List.length_cons, hnm]; omega) _ _ S.hp) ?_
        rintro v16 w ⟨rfl, hT⟩; clear E a; intro a E
        have S := S.all hT
        refine zy E hb7 (zAk E rfl rfl hb12 rfl) ?_; clear E a; intro a E
        refine zp E (zAj E rfl rfl hb7 rfl) ?_; clear E a; intro a E
        refine zp E (zAe E rfl rfl) ?_; clear E a; intro a E
        refine wpList_nil ?_
        refine zCf ?_
        have hb12n : (c0.toNat : Int) = 47 := hb12n
        have e : c0 = 47 := UInt8.toNat_inj.1 (show c0.toNat = 47 by omega)
        have e2 : behB (c0 :: tl) = nameB (120 :: c0 :: tl) := by simp [behB, e]
        rw [e2]
        exact ⟨S, E.keep (zAb rfl (zAb rfl zAr))⟩
      · have hb12n := hb12; replace hb12n := Nrm.nrm hb12n
        iterate 4 (refine zn E hb12 ?_; clear E a; intro a E)
        refine zy E hb7 (zAj E rfl rfl hb12 rfl) ?_; clear E a; intro a E
        refine zp E (zAj E rfl rfl hb7 rfl) ?_; clear E a; intro a E
        refine zp E (zAe E rfl rfl) ?_; clear E a; intro a E
        refine wpList_nil ?_
        refine zCf ?_
        have e : ¬ c0 = 47 := fun q => by subst q; simp at hb12n
        have e2 : behB (c0 :: tl) = false := by simp [behB, e]
        rw [e2]
        exact ⟨S, E.keep (zAb rfl (zAb rfl zAr))⟩
  · clear E S a; intro a w J; obtain ⟨S, E⟩ := J
    refine zAf hK ?_; clear hK; clear K
    refine wp_seq_k ?_; intro K hK
    refine zAa ?_
    iterate 2 (refine zp E (zAd E rfl rfl) ?_; clear E a; intro a E)
    refine zAw E (t := 20) rfl (fun hb20 => ?_) (fun hb20 => ?_)
    · have hb20n := hb20; replace hb20n := Nrm.nrm hb20n
      refine zy E hb20 (by first | exact zAg (q := 2) E rfl rfl rfl | exact zAh (q := 2) E rfl rfl rfl) ?_; clear E a; intro a E
      refine zy E hb20 (by first | exact zAq E rfl rfl rfl (S.get (by repeat (first | exact pk1 | apply zAc))) rfl | exact zAl E rfl rfl rfl (by assumption)) ?_; clear E a; intro a E
      refine zBu E rfl rfl rfl rfl hb20 ?_; refine zCm E rfl (by decide) rfl Tryz.func49 rfl (by kernel_rfl) rfl (zDn r.typ 1 2 _ _ S.hp) ?_
      rintro v23 w ⟨rfl, hT⟩; clear E a; intro a E
      have S := S.all hT
      refine zp E (zAk E rfl rfl hb20 rfl) ?_; clear E a; intro a E
      refine zp E (zAd E rfl rfl) ?_; clear E a; intro a E
      refine zAw E (t := 25) rfl (fun hb25 => ?_) (fun hb25 => ?_)
      · have hb25n := hb25; replace hb25n := Nrm.nrm hb25n
        refine zy E hb25 (by first | exact zAg (q := 3) E rfl rfl rfl | exact zAh (q := 3) E rfl rfl rfl) ?_; clear E a; intro a E
        refine zy E hb25 (by first | exact zAq E rfl rfl rfl (S.get (by repeat (first | exact pk1 | apply zAc))) rfl | exact zAl E rfl rfl rfl (by assumption)) ?_; clear E a; intro a E
        refine zBu E rfl rfl rfl rfl hb25 ?_; refine zCm E rfl (by decide) rfl Tryz.func49 rfl (by kernel_rfl) rfl (zDn r.frm 0 2199023255552 _ _ S.hp) ?_
        rintro v28 w ⟨rfl, hT⟩; clear E a; intro a E
        have S := S.all hT
        refine zp E (zAk E rfl rfl hb25 rfl) ?_; clear E a; intro a E
        refine zp E (zAd E rfl rfl) ?_; clear E a; intro a E
        refine zAw E (t := 30) rfl (fun hb30 => ?_) (fun hb30 => ?_)
        · have hb30n := hb30; replace hb30n := Nrm.nrm hb30n
          refine zy E hb30 (by first | exact zAg (q := 4) E rfl rfl rfl | exact zAh (q := 4) E rfl rfl rfl) ?_; clear E a; intro a E
          refine zy E hb30 (by first | exact zAq E rfl rfl rfl (S.get (by repeat (first | exact pk1 | apply zAc))) rfl | exact zAl E rfl rfl rfl (by assumption)) ?_; clear E a; intro a E
          refine zBu E rfl rfl rfl rfl hb30 ?_; refine zCm E rfl (by decide) rfl Tryz.func49 rfl (by kernel_rfl) rfl (zDn r.guid 1 2199023255552 _ _ S.hp) ?_
          rintro v33 w ⟨rfl, hT⟩; clear E a; intro a E
          have S := S.all hT
          refine zp E (zAk E rfl rfl hb30 rfl) ?_; clear E a; intro a E
          refine zp E (zAd E rfl rfl) ?_; clear E a; intro a E
          refine zAw E (t := 35) rfl (fun hb35 => ?_) (fun hb35 => ?_)
          · have hb35n := hb35; replace hb35n := Nrm.nrm hb35n
            refine zy E hb35 (by first | exact zAg (q := 5) E rfl rfl rfl | exact zAh (q := 5) E rfl rfl rfl) ?_; clear E a; intro a E
            refine zy E hb35 (by first | exact zAq E rfl rfl rfl (S.get (by repeat (first | exact pk1 | apply zAc))) rfl | exact zAl E rfl rfl rfl (by assumption)) ?_; clear E a; intro a E
            refine zy E hb35 (by first | exact zCe E rfl rfl rfl | exact zAt E rfl rfl rfl rfl | exact zAz E rfl rfl rfl rfl | exact zAu E rfl rfl rfl) ?_; clear E a; intro a E
            refine zy E hb35 (zAd E rfl rfl) ?_; clear E a; intro a E
            refine zAw E (t := 39) rfl (fun hb39 => ?_) (fun hb39 => ?_)
            · have hb39n := hb39; replace hb39n := Nrm.nrm hb39n
              iterate 4 (refine zn E hb39 ?_; clear E a; intro a E)
              iterate 3 (refine zu E ?_; clear E a; intro a E)
              refine zn E hb39 ?_; clear E a; intro a E
              refine zy E hb35 (zAk E rfl rfl hb39 rfl) ?_; clear E a; intro a E
              refine zp E (zAk E rfl rfl hb35 rfl) ?_; clear E a; intro a E
              refine zp E (zAd E rfl rfl) ?_; clear E a; intro a E
              refine zy E rfl (by first | exact zAg (q := 6) E rfl rfl rfl | exact zAh (q := 6) E rfl rfl rfl) ?_; clear E a; intro a E
              refine zy E rfl (by first | exact zAq E rfl rfl rfl (S.get (by repeat (first | exact pk1 | apply zAc))) rfl | exact zAl E rfl rfl rfl (by assumption)) ?_; clear E a; intro a E
              refine zBu E rfl rfl rfl rfl rfl ?_; refine zCm E rfl (by decide) rfl Tryz.func48 rfl (by kernel_rfl) rfl (zHl r.snap (by omega) _ _ S.hp) ?_
              rintro v53 w ⟨rfl, hT⟩; clear E a; intro a E
              have S := S.all hT
              refine zp E (zAk E rfl rfl rfl rfl) ?_; clear E a; intro a E
              refine zp E (zAd E rfl rfl) ?_; clear E a; intro a E
              refine zAw E (t := 55) rfl (fun hb55 => ?_) (fun hb55 => ?_)
              · have hb55n := hb55; replace hb55n := Nrm.nrm hb55n
                refine zy E hb55 (by first | exact zAg (q := 7) E rfl rfl rfl | exact zAh (q := 7) E rfl rfl rfl) ?_; clear E a; intro a E
                refine zy E hb55 (by first | exact zAq E rfl rfl rfl (S.get (by repeat (first | exact pk1 | apply zAc))) rfl | exact zAl E rfl rfl rfl (by assumption)) ?_; clear E a; intro a E
                refine zBu E rfl rfl rfl rfl hb55 ?_; refine zCm E rfl (by decide) rfl Tryz.func116 rfl (by kernel_rfl) rfl (props_ret C pv r.props hR.pr (by have := hs.props; omega) hs.prop _ (List.mem_cons_of_mem _ hC) _ S.hp) ?_
                rintro v58 w ⟨rfl, hT⟩; clear E a; intro a E
                have S := S.all hT
                refine zp E (zAk E rfl rfl hb55 rfl) ?_; clear E a; intro a E
                refine zp E (zAe E rfl rfl) ?_; clear E a; intro a E
                refine wpList_nil ?_
                refine zAf hK ?_; clear hK; clear K
                refine wp_ret ?_
                refine ret1 E rfl rfl ?_
                refine ⟨_, rfl, ?_, S.tail.tr⟩
                congr 1
                rw [Bool.eq_iff_iff, zDz]
                unfold begP
                rw [← hnm]
                clear S E hcells hnm H hR hs h1 h2
                simp_all <;> (intros; omega)
              · have hb55n := hb55; replace hb55n := Nrm.nrm hb55n
                iterate 3 (refine zn E hb55 ?_; clear E a; intro a E)
                refine zp E (zAj E rfl rfl hb55 rfl) ?_; clear E a; intro a E
                refine zp E (zAe E rfl rfl) ?_; clear E a; intro a E
                refine wpList_nil ?_
                refine zAf hK ?_; clear hK; clear K
                refine wp_ret ?_
                refine ret1 E rfl rfl ?_
                refine ⟨_, rfl, ?_, S.tail.tr⟩
                congr 1
                rw [Bool.eq_iff_iff, zDz]
                unfold begP
                rw [← hnm]
                clear S E hcells hnm H hR hs h1 h2
                simp_all <;> (intros; omega)
            · have hb39n := hb39; replace hb39n := Nrm.nrm hb39n
              refine zy E hb39 (by first | exact zAg (q := 5) E rfl rfl rfl | exact zAh (q := 5) E rfl rfl rfl) ?_; clear E a; intro a E
              refine zy E hb39 (by first | exact zAq E rfl rfl rfl (S.get (by repeat (first | exact pk1 | apply zAc))) rfl | exact zAl E rfl rfl rfl (by assumption)) ?_; clear E a; intro a E
              refine zy E hb39 (by first | exact zCe E rfl rfl rfl | exact zAt E rfl rfl rfl rfl | exact zAz E rfl rfl rfl rfl | exact zAu E rfl rfl rfl) ?_; clear E a; intro a E
              refine zy E hb39 (zAd E rfl rfl) ?_; clear E a; intro a E
              refine zAw E (t := 43) rfl (fun hb43 => ?_) (fun hb43 => ?_)
              · have hb43n := hb43; replace hb43n := Nrm.nrm hb43n
                refine zy E hb43 (by first | exact zAg (q := 3) E rfl rfl rfl | exact zAh (q := 3) E rfl rfl rfl) ?_; clear E a; intro a E
                refine zy E hb43 (by first | exact zAq E rfl rfl rfl (S.get (by repeat (first | exact pk1 | apply zAc))) rfl | exact zAl E rfl rfl rfl (by assumption)) ?_; clear E a; intro a E
                refine zy E hb43 (zEi E rfl rfl rfl) ?_; clear E a; intro a E
                refine zy E hb39 (zAk E rfl rfl hb43 rfl) ?_; clear E a; intro a E
                refine zy E hb35 (zAj E rfl rfl hb39 rfl) ?_; clear E a; intro a E
                refine zp E (zAk E rfl rfl hb35 rfl) ?_; clear E a; intro a E
                refine zp E (zAd E rfl rfl) ?_; clear E a; intro a E
                refine zAw E (t := 50) rfl (fun hb50 => ?_) (fun hb50 => ?_)
                · have hb50n := hb50; replace hb50n := Nrm.nrm hb50n
                  refine zy E hb50 (by first | exact zAg (q := 6) E rfl rfl rfl | exact zAh (q := 6) E rfl rfl rfl) ?_; clear E a; intro a E
                  refine zy E hb50 (by first | exact zAq E rfl rfl rfl (S.get (by repeat (first | exact pk1 | apply zAc))) rfl | exact zAl E rfl rfl rfl (by assumption)) ?_; clear E a; intro a E
                  refine zBu E rfl rfl rfl rfl hb50 ?_; refine zCm E rfl (by decide) rfl Tryz.func48 rfl (by kernel_rfl) rfl (zHl r.snap (by omega) _ _ S.hp) ?_
                  rintro v53 w ⟨rfl, hT⟩; clear E a; intro a E
                  have S := S.all hT
                  refine zp E (zAk E rfl rfl hb50 rfl) ?_; clear E a; intro a E
                  refine zp E (zAd E rfl rfl) ?_; clear E a; intro a E
                  refine zAw E (t := 55) rfl (fun hb55 => ?_) (fun hb55 => ?_)
                  · have hb55n := hb55; replace hb55n := Nrm.nrm hb55n
                    refine zy E hb55 (by first | exact zAg (q := 7) E rfl rfl rfl | exact zAh (q := 7) E rfl rfl rfl) ?_; clear E a; intro a E
                    refine zy E hb55 (by first | exact zAq E rfl rfl rfl (S.get (by repeat (first | exact pk1 | apply zAc))) rfl | exact zAl E rfl rfl rfl (by assumption)) ?_; clear E a; intro a E
                    refine zBu E rfl rfl rfl rfl hb55 ?_; refine zCm E rfl (by decide) rfl Tryz.func116 rfl (by kernel_rfl) rfl (props_ret C pv r.props hR.pr (by have := hs.props; omega) hs.prop _ (List.mem_cons_of_mem _ hC) _ S.hp) ?_
                    rintro v58 w ⟨rfl, hT⟩; clear E a; intro a E
                    have S := S.all hT
                    refine zp E (zAk E rfl rfl hb55 rfl) ?_; clear E a; intro a E
                    refine zp E (zAe E rfl rfl) ?_; clear E a; intro a E
                    refine wpList_nil ?_
                    refine zAf hK ?_; clear hK; clear K
                    refine wp_ret ?_
                    refine ret1 E rfl rfl ?_
                    refine ⟨_, rfl, ?_, S.tail.tr⟩
                    congr 1
                    rw [Bool.eq_iff_iff, zDz]
                    unfold begP
                    rw [← hnm]
                    clear S E hcells hnm H hR hs h1 h2
                    simp_all <;> (intros; omega)
                  · have hb55n := hb55; replace hb55n := Nrm.nrm hb55n
                    iterate 3 (refine zn E hb55 ?_; clear E a; intro a E)
                    refine zp E (zAj E rfl rfl hb55 rfl) ?_; clear E a; intro a E
                    refine zp E (zAe E rfl rfl) ?_; clear E a; intro a E
                    refine wpList_nil ?_
                    refine zAf hK ?_; clear hK; clear K
                    refine wp_ret ?_
                    refine ret1 E rfl rfl ?_
                    refine ⟨_, rfl, ?_, S.tail.tr⟩
                    congr 1
                    rw [Bool.eq_iff_iff, zDz]
                    unfold begP
                    rw [← hnm]
                    clear S E hcells hnm H hR hs h1 h2
                    simp_all <;> (intros; omega)
                · have hb50n := hb50; replace hb50n := Nrm.nrm hb50n
                  iterate 3 (refine zn E hb50 ?_; clear E a; intro a E)
                  refine zp E (zAj E rfl rfl hb50 rfl) ?_; clear E a; intro a E
                  refine zp E (zAd E rfl rfl) ?_; clear E a; intro a E
                  iterate 3 (refine zn E rfl ?_; clear E a; intro a E)
                  refine zp E (zAj E rfl rfl rfl rfl) ?_; clear E a; intro a E
                  refine zp E (zAe E rfl rfl) ?_; clear E a; intro a E
                  refine wpList_nil ?_
                  refine zAf hK ?_; clear hK; clear K
                  refine wp_ret ?_
                  refine ret1 E rfl rfl ?_
                  refine ⟨_, rfl, ?_, S.tail.tr⟩
                  congr 1
                  rw [Bool.eq_iff_iff, zDz]
                  unfold begP
                  rw [← hnm]
                  clear S E hcells hnm H hR hs h1 h2
                  simp_all <;> (intros; omega)
              · have hb43n := hb43; replace hb43n := Nrm.nrm hb43n
                iterate 3 (refine zn E hb43 ?_; clear E a; intro a E)
                refine zy E hb39 (zAj E rfl rfl hb43 rfl) ?_; clear E a; intro a E
                refine zy E hb35 (zAj E rfl rfl hb39 rfl) ?_; clear E a; intro a E
                refine zp E (zAk E rfl rfl hb35 rfl) ?_; clear E a; intro a E
                refine zp E (zAd E rfl rfl) ?_; clear E a; intro a E
                iterate 3 (refine zn E rfl ?_; clear E a; intro a E)
                refine zp E (zAj E rfl rfl rfl rfl) ?_; clear E a; intro a E
                refine zp E (zAd E rfl rfl) ?_; clear E a; intro a E
                iterate 3 (refine zn E rfl ?_; clear E a; intro a E)
                refine zp E (zAj E rfl rfl rfl rfl) ?_; clear E a; intro a E
                refine zp E (zAe E rfl rfl) ?_; clear E a; intro a E
                refine wpList_nil ?_
                refine zAf hK ?_; clear hK; clear K
                refine wp_ret ?_
                refine ret1 E rfl rfl ?_
                refine ⟨_, rfl, ?_, S.tail.tr⟩
                congr 1
                rw [Bool.eq_iff_iff, zDz]
                unfold begP
                rw [← hnm]
                clear S E hcells hnm H hR hs h1 h2
                simp_all <;> (intros; omega)
          · have hb35n := hb35; replace hb35n := Nrm.nrm hb35n
            iterate 4 (refine zn E hb35 ?_; clear E a; intro a E)
            iterate 8 (refine zu E ?_; clear E a; intro a E)
            refine zn E hb35 ?_; clear E a; intro a E
            refine zp E (zAj E rfl rfl hb35 rfl) ?_; clear E a; intro a E
            refine zp E (zAd E rfl rfl) ?_; clear E a; intro a E
            iterate 3 (refine zn E rfl ?_; clear E a; intro a E)
            refine zp E (zAj E rfl rfl rfl rfl) ?_; clear E a; intro a E
            refine zp E (zAd E rfl rfl) ?_; clear E a; intro a E
            iterate 3 (refine zn E rfl ?_; clear E a; intro a E)
            refine zp E (zAj E rfl rfl rfl rfl) ?_; clear E a; intro a E
            refine zp E (zAe E rfl rfl) ?_; clear E a; intro a E
            refine wpList_nil ?_
            refine zAf hK ?_; clear hK; clear K
            refine wp_ret ?_
            refine ret1 E rfl rfl ?_
            refine ⟨_, rfl, ?_, S.tail.tr⟩
            congr 1
            rw [Bool.eq_iff_iff, zDz]
            unfold begP
            rw [← hnm]
            clear S E hcells hnm H hR hs h1 h2
            simp_all <;> (intros; omega)
        · have hb30n := hb30; replace hb30n := Nrm.nrm hb30n
          iterate 3 (refine zn E hb30 ?_; clear E a; intro a E)
          refine zp E (zAj E rfl rfl hb30 rfl) ?_; clear E a; intro a E
          refine zp E (zAd E rfl rfl) ?_; clear E a; intro a E
          iterate 4 (refine zn E rfl ?_; clear E a; intro a E)
          iterate 8 (refine zu E ?_; clear E a; intro a E)
          refine zn E rfl ?_; clear E a; intro a E
          refine zp E (zAj E rfl rfl rfl rfl) ?_; clear E a; intro a E
          refine zp E (zAd E rfl rfl) ?_; clear E a; intro a E
          iterate 3 (refine zn E rfl ?_; clear E a; intro a E)
          refine zp E (zAj E rfl rfl rfl rfl) ?_; clear E a; intro a E
          refine zp E (zAd E rfl rfl) ?_; clear E a; intro a E
          iterate 3 (refine zn E rfl ?_; clear E a; intro a E)
          refine zp E (zAj E rfl rfl rfl rfl) ?_; clear E a; intro a E
          refine zp E (zAe E rfl rfl) ?_; clear E a; intro a E
          refine wpList_nil ?_
          refine zAf hK ?_; clear hK; clear K
          refine wp_ret ?_
          refine ret1 E rfl rfl ?_
          refine ⟨_, rfl, ?_, S.tail.tr⟩
          congr 1
          rw [Bool.eq_iff_iff, zDz]
          unfold begP
          rw [← hnm]
          clear S E hcells hnm H hR hs h1 h2
          simp_all <;> (intros; omega)
      · have hb25n := hb25; replace hb25n := Nrm.nrm hb25n
        iterate 3 (refine zn E hb25 ?_; clear E a; intro a E)
        refine zp E (zAj E rfl rfl hb25 rfl) ?_; clear E a; intro a E
        refine zp E (zAd E rfl rfl) ?_; clear E a; intro a E
        iterate 3 (refine zn E rfl ?_; clear E a; intro a E)
        refine zp E (zAj E rfl rfl rfl rfl) ?_; clear E a; intro a E
        refine zp E (zAd E rfl rfl) ?_; clear E a; intro a E
        iterate 4 (refine zn E rfl ?_; clear E a; intro a E)
        iterate 8 (refine zu E ?_; clear E a; intro a E)
        refine zn E rfl ?_; clear E a; intro a E
        refine zp E (zAj E rfl rfl rfl rfl) ?_; clear E a; intro a E
        refine zp E (zAd E rfl rfl) ?_; clear E a; intro a E
        iterate 3 (refine zn E rfl ?_; clear E a; intro a E)
        refine zp E (zAj E rfl rfl rfl rfl) ?_; clear E a; intro a E
        refine zp E (zAd E rfl rfl) ?_; clear E a; intro a E
        iterate 3 (refine zn E rfl ?_; clear E a; intro a E)
        refine zp E (zAj E rfl rfl rfl rfl) ?_; clear E a; intro a E
        refine zp E (zAe E rfl rfl) ?_; clear E a; intro a E
        refine wpList_nil ?_
        refine zAf hK ?_; clear hK; clear K
        refine wp_ret ?_
        refine ret1 E rfl rfl ?_
        refine ⟨_, rfl, ?_, S.tail.tr⟩
        congr 1
        rw [Bool.eq_iff_iff, zDz]
        unfold begP
        rw [← hnm]
        clear S E hcells hnm H hR hs h1 h2
        simp_all <;> (intros; omega)
    · have hb20n := hb20; replace hb20n := Nrm.nrm hb20n
      iterate 3 (refine zn E hb20 ?_; clear E a; intro a E)
      refine zp E (zAj E rfl rfl hb20 rfl) ?_; clear E a; intro a E
      refine zp E (zAd E rfl rfl) ?_; clear E a; intro a E
      iterate 3 (refine zn E rfl ?_; clear E a; intro a E)
      refine zp E (zAj E rfl rfl rfl rfl) ?_; clear E a; intro a E
      refine zp E (zAd E rfl rfl) ?_; clear E a; intro a E
      iterate 3 (refine zn E rfl ?_; clear E a; intro a E)
      refine zp E (zAj E rfl rfl rfl rfl) ?_; clear E a; intro a E
      refine zp E (zAd E rfl rfl) ?_; clear E a; intro a E
      iterate 4 (refine zn E rfl ?_; clear E a; intro a E)
      iterate 8 (refine zu E ?_; clear E a; intro a E)
      refine zn E rfl ?_; clear E a; intro a E
      refine zp E (zAj E rfl rfl rfl rfl) ?_; clear E a; intro a E
      refine zp E (zAd E rfl rfl) ?_; clear E a; intro a E
      iterate 3 (refine zn E rfl ?_; clear E a; intro a E)
      refine zp E (zAj E rfl rfl rfl rfl) ?_; clear E a; intro a E
      refine zp E (zAd E rfl rfl) ?_; clear E a; intro a E
      iterate 3 (refine zn E rfl ?_; clear E a; intro a E)
      refine zp E (zAj E rfl rfl rfl rfl) ?_; clear E a; intro a E
      refine zp E (zAe E rfl rfl) ?_; clear E a; intro a E
      refine wpList_nil ?_
      refine zAf hK ?_; clear hK; clear K
      refine wp_ret ?_
      refine ret1 E rfl rfl ?_
      refine ⟨_, rfl, ?_, S.tail.tr⟩
      congr 1
      rw [Bool.eq_iff_iff, zDz]
      unfold begP
      rw [← hnm]
      clear S E hcells hnm H hR hs h1 h2
      simp_all <;> (intros; omega)
end
end Go.Proofs.YtbogecljkaimdaaGreatDoor
