/-
  Texts put together (5).
-/
import Derived.Test.YtbogecljkaimdaaGreatDoorZRecordReadsW4
set_option maxHeartbeats 1000000
namespace Go.Sl
noncomputable def may1 (r : Rec) : Bool := zEw r.name && decide (1 ≤ r.many ∧ r.many ≤ 120)
noncomputable def may3 (r : Rec) : Bool := risB r.keep 1 1048576
noncomputable def may4 (r : Rec) : Bool := decide (1 ≤ r.object ∧ r.object ≤ 1048576) && (decide (0 < r.keep.length) && risB r.keep (-1) 255)
noncomputable def may5 (r : Rec) : Bool := decide (1 ≤ r.object ∧ r.object ≤ 1048576) && (decide (-1 ≤ r.at_ ∧ r.at_ ≤ 255) && decide (1 ≤ (r.data.length : Int) ∧ (r.data.length : Int) ≤ 256))
noncomputable def may6 (r : Rec) : Bool := decide (1 ≤ r.many ∧ r.many ≤ 1048576)
def zCa (r : Rec) : Bool := decide (r.name = []) && (decide (r.snap = []) && (decide (r.typ = 0) && (decide (r.frm = 0) && (decide (r.guid = 0) && (decide (r.origin = 0) && (decide (r.object = 0) && (decide (r.at_ = 0) && (decide (r.many = 0) &&
 decide (r.props.length + r.keep.length + r.data.length = 0)))))))))
def zDb (r : Rec) : Rec :=
 if r.kind = 1 then { r with name := [], many := 0 } else if r.kind = 2 then { r with name := [], typ := 0, frm := 0, guid := 0, origin := 0, snap := [], props := [] }
 else if r.kind = 3 then { r with keep := [] } else if r.kind = 4 then { r with object := 0, keep := [] } else if r.kind = 5 then { r with object := 0, at_ := 0, data := [] } else { r with many := 0 }
end Go.Sl
namespace Go.Proofs.YtbogecljkaimdaaGreatDoor
open Go.Sl
set_option maxRecDepth 10000
section
variable {C : zAl} {r : Rec} {pv kv dv : Value} (hR : RecR C r pv kv dv) (hs : Sml r) {As : List zAl} (hC : C ∈ As) (w0 : World) (H : Hp w0 As)
include hR hs hC H
theorem may1_ret : Ret Tryz.prog 47 #[.agg (r.cells pv kv dv).toArray] w0 fun u w' => u = .bool (may1 r) ∧ Trs w0 w' As As := by
 have _ := hR
 have _ := hC
 have S := St.begin H
 have := hs.name
 refine zCd 11 Tryz.func47 rfl rfl dZ ?_; intro a E
 refine wp_seq_k ?_; intro K hK
 refine zAa ?_
 refine zAg rfl (zBx E S rfl rfl dZ rfl rfl ?_); clear E S a; intro a w b1 E S
 refine zd E ?_; clear E a; intro a E
 refine wpList_nil ?_
 refine zAb hK ?_; clear hK K
 refine wp_seq_k ?_; intro K hK
 refine zAa ?_
 refine zp E (by first | exact zAc (q := 1) E rfl rfl rfl | exact zAd (q := 1) E rfl rfl rfl) ?_; clear E a; intro a E
 refine zd E ?_; clear E a; intro a E
 refine zAh E rfl rfl dZ rfl Tryz.func48 rfl yZ rfl (zIb r.name oZ _ _ S.hp) ?_
 rintro v5 w ⟨rfl, hT⟩; clear E a; intro a E
 have S := S.all hT
 refine zd E ?_; clear E a; intro a E
 refine zAj E (t := 6) rfl (fun hb6 => ?_) (fun hb6 => ?_)
 ·have hb6n := hb6; replace hb6n := Nrm.nrm hb6n
  refine zy E hb6 (by first | exact zAc (q := 10) E rfl rfl rfl | exact zAd (q := 10) E rfl rfl rfl) ?_; clear E a; intro a E
  refine zyd E hb6 ?_; clear E a; intro a E
  refine zBk E rfl rfl rfl rfl hb6 ?_; refine zBy E rfl dZ rfl Tryz.func49 rfl yZ rfl (zDf r.many 1 120 _ _ S.hp) ?_
  rintro v9 w ⟨rfl, hT⟩; clear E a; intro a E
  have S := S.all hT
  refine zp E (zAf E rfl rfl hb6 rfl) ?_; clear E a; intro a E
  refine zd E ?_; clear E a; intro a E
  refine wpList_nil ?_
  refine zAb hK ?_; clear hK K
  refine wp_ret ?_
  refine ret1 E rfl rfl ?_
  exact ⟨_, rfl, by simp [may1, hb6], S.tail.tr⟩
 ·have hb6n := hb6; replace hb6n := Nrm.nrm hb6n
  iterate 3 (refine zn E hb6 ?_; clear E a; intro a E)
  refine zp E (zAe E rfl rfl hb6 rfl) ?_; clear E a; intro a E
  refine zd E ?_; clear E a; intro a E
  refine wpList_nil ?_
  refine zAb hK ?_; clear hK K
  refine wp_ret ?_
  refine ret1 E rfl rfl ?_
  exact ⟨_, rfl, by simp [may1, hb6], S.tail.tr⟩
theorem may3_ret : Ret Tryz.prog 55 #[.agg (r.cells pv kv dv).toArray] w0 fun u w' => u = .bool (may3 r) ∧ Trs w0 w' As As := by
 have S := St.begin H
 have := hs.keep
 refine zCd 6 Tryz.func55 rfl rfl dZ ?_; intro a E
 refine wp_seq_k ?_; intro K hK
 refine zAa ?_
 refine zAg rfl (zBx E S rfl rfl dZ rfl rfl ?_); clear E S a; intro a w b1 E S
 refine zd E ?_; clear E a; intro a E
 refine wpList_nil ?_
 refine zAb hK ?_; clear hK K
 refine wp_seq_k ?_; intro K hK
 refine zAa ?_
 refine zp E (by first | exact zAc (q := 11) E rfl rfl rfl | exact zAd (q := 11) E rfl rfl rfl) ?_; clear E a; intro a E
 refine zd E ?_; clear E a; intro a E
 refine zAh E rfl rfl dZ rfl Tryz.func56 rfl yZ rfl (ris_ret C kv r.keep hR.kr oZ 1 1048576 _ (List.mem_cons_of_mem _ hC) _ S.hp) ?_
 rintro v5 w ⟨rfl, hT⟩; clear E a; intro a E
 have S := S.all hT
 refine zd E ?_; clear E a; intro a E
 refine wpList_nil ?_
 refine zAb hK ?_; clear hK K
 refine wp_ret ?_
 refine ret1 E rfl rfl ?_
 exact ⟨_, rfl, rfl, S.tail.tr⟩
theorem may4_ret : Ret Tryz.prog 61 #[.agg (r.cells pv kv dv).toArray] w0 fun u w' => u = .bool (may4 r) ∧ Trs w0 w' As As := by
 have S := St.begin H
 have := hs.keep
 have hk := hR.kr
 obtain ⟨ad, c, rfl⟩ := hk.slice
 refine zCd 17 Tryz.func61 rfl rfl dZ ?_; intro a E
 refine wp_seq_k ?_; intro K hK
 refine zAa ?_
 refine zAg rfl (zBx E S rfl rfl dZ rfl rfl ?_); clear E S a; intro a w b1 E S
 refine zd E ?_; clear E a; intro a E
 refine wpList_nil ?_
 refine zAb hK ?_; clear hK K
 refine wp_seq_k ?_; intro K hK
 refine zAa ?_
 refine zp E (by first | exact zAc (q := 8) E rfl rfl rfl | exact zAd (q := 8) E rfl rfl rfl) ?_; clear E a; intro a E
 refine zd E ?_; clear E a; intro a E
 refine zAh E rfl rfl dZ rfl Tryz.func49 rfl yZ rfl (zDf r.object 1 1048576 _ _ S.hp) ?_
 rintro v5 w ⟨rfl, hT⟩; clear E a; intro a E
 have S := S.all hT
 refine zd E ?_; clear E a; intro a E
 refine zAj E (t := 6) rfl (fun hb6 => ?_) (fun hb6 => ?_)
 ·have hb6n := hb6; replace hb6n := Nrm.nrm hb6n
  refine zy E hb6 (by first | exact zAc (q := 11) E rfl rfl rfl | exact zAd (q := 11) E rfl rfl rfl) ?_; clear E a; intro a E
  iterate 3 (refine zyd E hb6 ?_; clear E a; intro a E)
  refine zp E (zAf E rfl rfl hb6 rfl) ?_; clear E a; intro a E
  refine zd E ?_; clear E a; intro a E
  refine zAj E (t := 12) rfl (fun hb12 => ?_) (fun hb12 => ?_)
  ·have hb12n := hb12; replace hb12n := Nrm.nrm hb12n
   refine zy E hb12 (by first | exact zAc (q := 11) E rfl rfl rfl | exact zAd (q := 11) E rfl rfl rfl) ?_; clear E a; intro a E
   refine zyd E hb12 ?_; clear E a; intro a E
   refine zBk E rfl rfl rfl rfl hb12 ?_; refine zBy E rfl dZ rfl Tryz.func56 rfl yZ rfl (ris_ret C _ r.keep hk oZ (-1) 255 _ (List.mem_cons_of_mem _ hC) _ S.hp) ?_
   rintro v15 w ⟨rfl, hT⟩; clear E a; intro a E
   have S := S.all hT
   refine zp E (zAf E rfl rfl hb12 rfl) ?_; clear E a; intro a E
   refine zd E ?_; clear E a; intro a E
   refine wpList_nil ?_
   refine zAb hK ?_; clear hK K
   refine wp_ret ?_
   refine ret1 E rfl rfl ?_
   exact ⟨_, rfl, by congr 1; simp only [may4]; simp_all <;> (intros; omega), S.tail.tr⟩
  ·have hb12n := hb12; replace hb12n := Nrm.nrm hb12n
   iterate 3 (refine zn E hb12 ?_; clear E a; intro a E)
   refine zp E (zAe E rfl rfl hb12 rfl) ?_; clear E a; intro a E
   refine zd E ?_; clear E a; intro a E
   refine wpList_nil ?_
   refine zAb hK ?_; clear hK K
   refine wp_ret ?_
   refine ret1 E rfl rfl ?_
   exact ⟨_, rfl, by congr 1; simp only [may4]; simp_all <;> (intros; omega), S.tail.tr⟩
 ·have hb6n := hb6; replace hb6n := Nrm.nrm hb6n
  iterate 4 (refine zn E hb6 ?_; clear E a; intro a E)
  refine zp E (zAe E rfl rfl hb6 rfl) ?_; clear E a; intro a E
  refine zd E ?_; clear E a; intro a E
  iterate 3 (refine zn E rfl ?_; clear E a; intro a E)
  refine zp E (zAe E rfl rfl rfl rfl) ?_; clear E a; intro a E
  refine zd E ?_; clear E a; intro a E
  refine wpList_nil ?_
  refine zAb hK ?_; clear hK K
  refine wp_ret ?_
  refine ret1 E rfl rfl ?_
  exact ⟨_, rfl, by congr 1; simp only [may4]; simp_all <;> (intros; omega), S.tail.tr⟩
theorem may5_ret : Ret Tryz.prog 64 #[.agg (r.cells pv kv dv).toArray] w0 fun u w' => u = .bool (may5 r) ∧ Trs w0 w' As As := by
 have _ := hs
 have _ := hC
 have S := St.begin H
 have hk := hR.dr
 obtain ⟨ad, c, rfl⟩ := hk.slice
 refine zCd 17 Tryz.func64 rfl rfl dZ ?_; intro a E
 refine wp_seq_k ?_; intro K hK
 refine zAa ?_
 refine zAg rfl (zBx E S rfl rfl dZ rfl rfl ?_); clear E S a; intro a w b1 E S
 refine zd E ?_; clear E a; intro a E
 refine wpList_nil ?_
 refine zAb hK ?_; clear hK K
 refine wp_seq_k ?_; intro K hK
 refine zAa ?_
 refine zp E (by first | exact zAc (q := 8) E rfl rfl rfl | exact zAd (q := 8) E rfl rfl rfl) ?_; clear E a; intro a E
 refine zd E ?_; clear E a; intro a E
 refine zAh E rfl rfl dZ rfl Tryz.func49 rfl yZ rfl (zDf r.object 1 1048576 _ _ S.hp) ?_
 rintro v5 w ⟨rfl, hT⟩; clear E a; intro a E
 have S := S.all hT
 refine zd E ?_; clear E a; intro a E
 refine zAj E (t := 6) rfl (fun hb6 => ?_) (fun hb6 => ?_)
 ·have hb6n := hb6; replace hb6n := Nrm.nrm hb6n
  refine zy E hb6 (by first | exact zAc (q := 9) E rfl rfl rfl | exact zAd (q := 9) E rfl rfl rfl) ?_; clear E a; intro a E
  refine zyd E hb6 ?_; clear E a; intro a E
  refine zBk E rfl rfl rfl rfl hb6 ?_; refine zBy E rfl dZ rfl Tryz.func49 rfl yZ rfl (zDf r.at_ (-1) 255 _ _ S.hp) ?_
  rintro v9 w ⟨rfl, hT⟩; clear E a; intro a E
  have S := S.all hT
  refine zp E (zAf E rfl rfl hb6 rfl) ?_; clear E a; intro a E
  refine zd E ?_; clear E a; intro a E
  refine zAj E (t := 11) rfl (fun hb11 => ?_) (fun hb11 => ?_)
  ·have hb11n := hb11; replace hb11n := Nrm.nrm hb11n
   refine zy E hb11 (by first | exact zAc (q := 12) E rfl rfl rfl | exact zAd (q := 12) E rfl rfl rfl) ?_; clear E a; intro a E
   iterate 2 (refine zyd E hb11 ?_; clear E a; intro a E)
   refine zBk E rfl rfl rfl rfl hb11 ?_; refine zBy E rfl dZ rfl Tryz.func49 rfl yZ rfl (zDf r.data.length 1 256 _ _ S.hp) ?_
   rintro v15 w ⟨rfl, hT⟩; clear E a; intro a E
   have S := S.all hT
   refine zp E (zAf E rfl rfl hb11 rfl) ?_; clear E a; intro a E
   refine zd E ?_; clear E a; intro a E
   refine wpList_nil ?_
   refine zAb hK ?_; clear hK K
   refine wp_ret ?_
   refine ret1 E rfl rfl ?_
   exact ⟨_, rfl, by congr 1; simp only [may5]; simp_all <;> (intros; omega), S.tail.tr⟩
  ·have hb11n := hb11; replace hb11n := Nrm.nrm hb11n
   iterate 4 (refine zn E hb11 ?_; clear E a; intro a E)
   refine zp E (zAe E rfl rfl hb11 rfl) ?_; clear E a; intro a E
   refine zd E ?_; clear E a; intro a E
   refine wpList_nil ?_
   refine zAb hK ?_; clear hK K
   refine wp_ret ?_
   refine ret1 E rfl rfl ?_
   exact ⟨_, rfl, by congr 1; simp only [may5]; simp_all <;> (intros; omega), S.tail.tr⟩
 ·have hb6n := hb6; replace hb6n := Nrm.nrm hb6n
  iterate 3 (refine zn E hb6 ?_; clear E a; intro a E)
  refine zp E (zAe E rfl rfl hb6 rfl) ?_; clear E a; intro a E
  refine zd E ?_; clear E a; intro a E
  iterate 4 (refine zn E rfl ?_; clear E a; intro a E)
  refine zp E (zAe E rfl rfl rfl rfl) ?_; clear E a; intro a E
  refine zd E ?_; clear E a; intro a E
  refine wpList_nil ?_
  refine zAb hK ?_; clear hK K
  refine wp_ret ?_
  refine ret1 E rfl rfl ?_
  exact ⟨_, rfl, by congr 1; simp only [may5]; simp_all <;> (intros; omega), S.tail.tr⟩
theorem may6_ret : Ret Tryz.prog 99 #[.agg (r.cells pv kv dv).toArray] w0 fun u w' => u = .bool (may6 r) ∧ Trs w0 w' As As := by
 have _ := hR
 have _ := hs
 have _ := hC
 have S := St.begin H
 refine zCd 6 Tryz.func99 rfl rfl dZ ?_; intro a E
 refine wp_seq_k ?_; intro K hK
 refine zAa ?_
 refine zAg rfl (zBx E S rfl rfl dZ rfl rfl ?_); clear E S a; intro a w b1 E S
 refine zd E ?_; clear E a; intro a E
 refine wpList_nil ?_
 refine zAb hK ?_; clear hK K
 refine wp_seq_k ?_; intro K hK
 refine zAa ?_
 refine zp E (by first | exact zAc (q := 10) E rfl rfl rfl | exact zAd (q := 10) E rfl rfl rfl) ?_; clear E a; intro a E
 refine zd E ?_; clear E a; intro a E
 refine zAh E rfl rfl dZ rfl Tryz.func49 rfl yZ rfl (zDf r.many 1 1048576 _ _ S.hp) ?_
 rintro v5 w ⟨rfl, hT⟩; clear E a; intro a E
 have S := S.all hT
 refine zd E ?_; clear E a; intro a E
 refine wpList_nil ?_
 refine zAb hK ?_; clear hK K
 refine wp_ret ?_
 refine ret1 E rfl rfl ?_
 exact ⟨_, rfl, rfl, S.tail.tr⟩
omit hC in
theorem empty_ret : Ret Tryz.prog 26 #[.agg (r.cells pv kv dv).toArray] w0 fun u w' => u = .bool (zCa r) ∧ Trs w0 w' As As := by
 have S := St.begin H
 have h1 := hs.props
 have h2 := hs.keep
 have h3 := hs.data
 obtain ⟨ad1, c1, rfl⟩ := hR.pr.slice
 obtain ⟨ad2, c2, rfl⟩ := hR.kr.slice
 obtain ⟨ad3, c3, rfl⟩ := hR.dr.slice
 refine zCd 60 Tryz.func26 rfl rfl dZ ?_; intro a E
 refine wp_seq_k ?_; intro K hK
 refine zAa ?_
 refine zAg rfl (zBx E S rfl rfl dZ rfl rfl ?_); clear E S a; intro a w b1 E S
 refine zd E ?_; clear E a; intro a E
 refine wpList_nil ?_
 refine zAb hK ?_; clear hK K
 refine wp_seq_k ?_; intro K hK
 refine zAa ?_
 refine zp E (by first | exact zAc (q := 1) E rfl rfl rfl | exact zAd (q := 1) E rfl rfl rfl) ?_; clear E a; intro a E
 iterate 3 (refine zd E ?_; clear E a; intro a E)
 refine zAj E (t := 6) rfl (fun hb6 => ?_) (fun hb6 => ?_)
 ·have hb6n := hb6; replace hb6n := Nrm.nrm hb6n
  refine zy E hb6 (by first | exact zAc (q := 6) E rfl rfl rfl | exact zAd (q := 6) E rfl rfl rfl) ?_; clear E a; intro a E
  iterate 2 (refine zyd E hb6 ?_; clear E a; intro a E)
  refine zp E (zAf E rfl rfl hb6 rfl) ?_; clear E a; intro a E
  refine zd E ?_; clear E a; intro a E
  refine zAj E (t := 11) rfl (fun hb11 => ?_) (fun hb11 => ?_)
  ·have hb11n := hb11; replace hb11n := Nrm.nrm hb11n
   refine zy E hb11 (by first | exact zAc (q := 2) E rfl rfl rfl | exact zAd (q := 2) E rfl rfl rfl) ?_; clear E a; intro a E
   iterate 2 (refine zyd E hb11 ?_; clear E a; intro a E)
   refine zp E (zAf E rfl rfl hb11 rfl) ?_; clear E a; intro a E
   refine zd E ?_; clear E a; intro a E
   refine zAj E (t := 16) rfl (fun hb16 => ?_) (fun hb16 => ?_)
   ·have hb16n := hb16; replace hb16n := Nrm.nrm hb16n
    refine zy E hb16 (by first | exact zAc (q := 3) E rfl rfl rfl | exact zAd (q := 3) E rfl rfl rfl) ?_; clear E a; intro a E
    iterate 2 (refine zyd E hb16 ?_; clear E a; intro a E)
    refine zp E (zAf E rfl rfl hb16 rfl) ?_; clear E a; intro a E
    refine zd E ?_; clear E a; intro a E
    refine zAj E (t := 21) rfl (fun hb21 => ?_) (fun hb21 => ?_)
    ·have hb21n := hb21; replace hb21n := Nrm.nrm hb21n
     refine zy E hb21 (by first | exact zAc (q := 4) E rfl rfl rfl | exact zAd (q := 4) E rfl rfl rfl) ?_; clear E a; intro a E
     iterate 2 (refine zyd E hb21 ?_; clear E a; intro a E)
     refine zp E (zAf E rfl rfl hb21 rfl) ?_; clear E a; intro a E
     refine zd E ?_; clear E a; intro a E
     refine zAj E (t := 26) rfl (fun hb26 => ?_) (fun hb26 => ?_)
     ·have hb26n := hb26; replace hb26n := Nrm.nrm hb26n
      refine zy E hb26 (by first | exact zAc (q := 5) E rfl rfl rfl | exact zAd (q := 5) E rfl rfl rfl) ?_; clear E a; intro a E
      iterate 2 (refine zyd E hb26 ?_; clear E a; intro a E)
      refine zp E (zAf E rfl rfl hb26 rfl) ?_; clear E a; intro a E
      refine zd E ?_; clear E a; intro a E
      refine zAj E (t := 31) rfl (fun hb31 => ?_) (fun hb31 => ?_)
      ·have hb31n := hb31; replace hb31n := Nrm.nrm hb31n
       refine zy E hb31 (by first | exact zAc (q := 8) E rfl rfl rfl | exact zAd (q := 8) E rfl rfl rfl) ?_; clear E a; intro a E
       iterate 2 (refine zyd E hb31 ?_; clear E a; intro a E)
       refine zp E (zAf E rfl rfl hb31 rfl) ?_; clear E a; intro a E
       refine zd E ?_; clear E a; intro a E
       refine zAj E (t := 36) rfl (fun hb36 => ?_) (fun hb36 => ?_)
       ·have hb36n := hb36; replace hb36n := Nrm.nrm hb36n
        refine zy E hb36 (by first | exact zAc (q := 9) E rfl rfl rfl | exact zAd (q := 9) E rfl rfl rfl) ?_; clear E a; intro a E
        iterate 2 (refine zyd E hb36 ?_; clear E a; intro a E)
        refine zp E (zAf E rfl rfl hb36 rfl) ?_; clear E a; intro a E
        refine zd E ?_; clear E a; intro a E
        refine zAj E (t := 41) rfl (fun hb41 => ?_) (fun hb41 => ?_)
        ·have hb41n := hb41; replace hb41n := Nrm.nrm hb41n
         refine zy E hb41 (by first | exact zAc (q := 10) E rfl rfl rfl | exact zAd (q := 10) E rfl rfl rfl) ?_; clear E a; intro a E
         iterate 2 (refine zyd E hb41 ?_; clear E a; intro a E)
         refine zp E (zAf E rfl rfl hb41 rfl) ?_; clear E a; intro a E
         refine zd E ?_; clear E a; intro a E
         refine zAj E (t := 46) rfl (fun hb46 => ?_) (fun hb46 => ?_)
         ·have hb46n := hb46; replace hb46n := Nrm.nrm hb46n
          refine zy E hb46 (by first | exact zAc (q := 7) E rfl rfl rfl | exact zAd (q := 7) E rfl rfl rfl) ?_; clear E a; intro a E
          iterate 2 (refine zyd E hb46 ?_; clear E a; intro a E)
          refine zy E hb46 (by first | exact zAc (q := 11) E rfl rfl rfl | exact zAd (q := 11) E rfl rfl rfl) ?_; clear E a; intro a E
          iterate 2 (refine zyd E hb46 ?_; clear E a; intro a E)
          refine zy E hb46 (zBc E rfl rfl rfl (by first | exact wa1 oZ | exact w_in oZ | exact zBb oZ | exact rfl)) ?_; clear E a; intro a E
          refine zy E hb46 (by first | exact zAc (q := 12) E rfl rfl rfl | exact zAd (q := 12) E rfl rfl rfl) ?_; clear E a; intro a E
          iterate 2 (refine zyd E hb46 ?_; clear E a; intro a E)
          refine zy E hb46 (zBc E rfl rfl rfl (by first | exact wa1 oZ | exact w_in oZ | exact zBb oZ | exact rfl)) ?_; clear E a; intro a E
          refine zyd E hb46 ?_; clear E a; intro a E
          refine zp E (zAf E rfl rfl hb46 rfl) ?_; clear E a; intro a E
          refine zd E ?_; clear E a; intro a E
          refine wpList_nil ?_
          refine zAb hK ?_; clear hK K
          refine wp_ret ?_
          refine ret1 E rfl rfl ?_
          refine ⟨_, rfl, ?_, S.tail.tr⟩
          congr 1
          clear S E H hR hs
          unfold zCa
          simp_all <;> first | (intros; omega) | (rw [Bool.eq_iff_iff]; simp only [beq_iff_eq, decide_eq_true_eq, Bool.and_eq_true, ← List.length_eq_zero_iff]; omega)
         ·have hb46n := hb46; replace hb46n := Nrm.nrm hb46n
          iterate 12 (refine zn E hb46 ?_; clear E a; intro a E)
          refine zp E (zAe E rfl rfl hb46 rfl) ?_; clear E a; intro a E
          refine zd E ?_; clear E a; intro a E
          refine wpList_nil ?_
          refine zAb hK ?_; clear hK K
          refine wp_ret ?_
          refine ret1 E rfl rfl ?_
          refine ⟨_, rfl, ?_, S.tail.tr⟩
          congr 1
          clear S E H hR hs
          unfold zCa
          simp_all <;> first | (intros; omega) | (rw [Bool.eq_iff_iff]; simp only [beq_iff_eq, decide_eq_true_eq, Bool.and_eq_true, ← List.length_eq_zero_iff]; omega)
        ·have hb41n := hb41; replace hb41n := Nrm.nrm hb41n
         iterate 3 (refine zn E hb41 ?_; clear E a; intro a E)
         refine zp E (zAe E rfl rfl hb41 rfl) ?_; clear E a; intro a E
         refine zd E ?_; clear E a; intro a E
         iterate 12 (refine zn E rfl ?_; clear E a; intro a E)
         refine zp E (zAe E rfl rfl rfl rfl) ?_; clear E a; intro a E
         refine zd E ?_; clear E a; intro a E
         refine wpList_nil ?_
         refine zAb hK ?_; clear hK K
         refine wp_ret ?_
         refine ret1 E rfl rfl ?_
         refine ⟨_, rfl, ?_, S.tail.tr⟩
         congr 1
         clear S E H hR hs
         unfold zCa
         simp_all <;> first | (intros; omega) | (rw [Bool.eq_iff_iff]; simp only [beq_iff_eq, decide_eq_true_eq, Bool.and_eq_true, ← List.length_eq_zero_iff]; omega)
       ·have hb36n := hb36; replace hb36n := Nrm.nrm hb36n
        iterate 3 (refine zn E hb36 ?_; clear E a; intro a E)
        refine zp E (zAe E rfl rfl hb36 rfl) ?_; clear E a; intro a E
        refine zd E ?_; clear E a; intro a E
        iterate 3 (refine zn E rfl ?_; clear E a; intro a E)
        refine zp E (zAe E rfl rfl rfl rfl) ?_; clear E a; intro a E
        refine zd E ?_; clear E a; intro a E
        iterate 12 (refine zn E rfl ?_; clear E a; intro a E)
        refine zp E (zAe E rfl rfl rfl rfl) ?_; clear E a; intro a E
        refine zd E ?_; clear E a; intro a E
        refine wpList_nil ?_
        refine zAb hK ?_; clear hK K
        refine wp_ret ?_
        refine ret1 E rfl rfl ?_
        refine ⟨_, rfl, ?_, S.tail.tr⟩
        congr 1
        clear S E H hR hs
        unfold zCa
        simp_all <;> first | (intros; omega) | (rw [Bool.eq_iff_iff]; simp only [beq_iff_eq, decide_eq_true_eq, Bool.and_eq_true, ← List.length_eq_zero_iff]; omega)
      ·have hb31n := hb31; replace hb31n := Nrm.nrm hb31n
       iterate 3 (refine zn E hb31 ?_; clear E a; intro a E)
       refine zp E (zAe E rfl rfl hb31 rfl) ?_; clear E a; intro a E
       refine zd E ?_; clear E a; intro a E
       iterate 3 (refine zn E rfl ?_; clear E a; intro a E)
       refine zp E (zAe E rfl rfl rfl rfl) ?_; clear E a; intro a E
       refine zd E ?_; clear E a; intro a E
       iterate 3 (refine zn E rfl ?_; clear E a; intro a E)
       refine zp E (zAe E rfl rfl rfl rfl) ?_; clear E a; intro a E
       refine zd E ?_; clear E a; intro a E
       iterate 12 (refine zn E rfl ?_; clear E a; intro a E)
       refine zp E (zAe E rfl rfl rfl rfl) ?_; clear E a; intro a E
       refine zd E ?_; clear E a; intro a E
       refine wpList_nil ?_
       refine zAb hK ?_; clear hK K
       refine wp_ret ?_
       refine ret1 E rfl rfl ?_
       refine ⟨_, rfl, ?_, S.tail.tr⟩
       congr 1
       clear S E H hR hs
       unfold zCa
       simp_all <;> first | (intros; omega) | (rw [Bool.eq_iff_iff]; simp only [beq_iff_eq, decide_eq_true_eq, Bool.and_eq_true, ← List.length_eq_zero_iff]; omega)
     ·have hb26n := hb26; replace hb26n := Nrm.nrm hb26n
      iterate 3 (refine zn E hb26 ?_; clear E a; intro a E)
      refine zp E (zAe E rfl rfl hb26 rfl) ?_; clear E a; intro a E
      refine zd E ?_; clear E a; intro a E
      iterate 3 (refine zn E rfl ?_; clear E a; intro a E)
      refine zp E (zAe E rfl rfl rfl rfl) ?_; clear E a; intro a E
      refine zd E ?_; clear E a; intro a E
      iterate 3 (refine zn E rfl ?_; clear E a; intro a E)
      refine zp E (zAe E rfl rfl rfl rfl) ?_; clear E a; intro a E
      refine zd E ?_; clear E a; intro a E
      iterate 3 (refine zn E rfl ?_; clear E a; intro a E)
      refine zp E (zAe E rfl rfl rfl rfl) ?_; clear E a; intro a E
      refine zd E ?_; clear E a; intro a E
      iterate 12 (refine zn E rfl ?_; clear E a; intro a E)
      refine zp E (zAe E rfl rfl rfl rfl) ?_; clear E a; intro a E
      refine zd E ?_; clear E a; intro a E
      refine wpList_nil ?_
      refine zAb hK ?_; clear hK K
      refine wp_ret ?_
      refine ret1 E rfl rfl ?_
      refine ⟨_, rfl, ?_, S.tail.tr⟩
      congr 1
      clear S E H hR hs
      unfold zCa
      simp_all <;> first | (intros; omega) | (rw [Bool.eq_iff_iff]; simp only [beq_iff_eq, decide_eq_true_eq, Bool.and_eq_true, ← List.length_eq_zero_iff]; omega)
    ·have hb21n := hb21; replace hb21n := Nrm.nrm hb21n
     iterate 3 (refine zn E hb21 ?_; clear E a; intro a E)
     refine zp E (zAe E rfl rfl hb21 rfl) ?_; clear E a; intro a E
     refine zd E ?_; clear E a; intro a E
     iterate 3 (refine zn E rfl ?_; clear E a; intro a E)
     refine zp E (zAe E rfl rfl rfl rfl) ?_; clear E a; intro a E
     refine zd E ?_; clear E a; intro a E
     iterate 3 (refine zn E rfl ?_; clear E a; intro a E)
     refine zp E (zAe E rfl rfl rfl rfl) ?_; clear E a; intro a E
     refine zd E ?_; clear E a; intro a E
     iterate 3 (refine zn E rfl ?_; clear E a; intro a E)
     refine zp E (zAe E rfl rfl rfl rfl) ?_; clear E a; intro a E
     refine zd E ?_; clear E a; intro a E
     iterate 3 (refine zn E rfl ?_; clear E a; intro a E)
     refine zp E (zAe E rfl rfl rfl rfl) ?_; clear E a; intro a E
     refine zd E ?_; clear E a; intro a E
     iterate 12 (refine zn E rfl ?_; clear E a; intro a E)
     refine zp E (zAe E rfl rfl rfl rfl) ?_; clear E a; intro a E
     refine zd E ?_; clear E a; intro a E
     refine wpList_nil ?_
     refine zAb hK ?_; clear hK K
     refine wp_ret ?_
     refine ret1 E rfl rfl ?_
     refine ⟨_, rfl, ?_, S.tail.tr⟩
     congr 1
     clear S E H hR hs
     unfold zCa
     simp_all <;> first | (intros; omega) | (rw [Bool.eq_iff_iff]; simp only [beq_iff_eq, decide_eq_true_eq, Bool.and_eq_true, ← List.length_eq_zero_iff]; omega)
   ·have hb16n := hb16; replace hb16n := Nrm.nrm hb16n
    iterate 3 (refine zn E hb16 ?_; clear E a; intro a E)
    refine zp E (zAe E rfl rfl hb16 rfl) ?_; clear E a; intro a E
    refine zd E ?_; clear E a; intro a E
    iterate 3 (refine zn E rfl ?_; clear E a; intro a E)
    refine zp E (zAe E rfl rfl rfl rfl) ?_; clear E a; intro a E
    refine zd E ?_; clear E a; intro a E
    iterate 3 (refine zn E rfl ?_; clear E a; intro a E)
    refine zp E (zAe E rfl rfl rfl rfl) ?_; clear E a; intro a E
    refine zd E ?_; clear E a; intro a E
    iterate 3 (refine zn E rfl ?_; clear E a; intro a E)
    refine zp E (zAe E rfl rfl rfl rfl) ?_; clear E a; intro a E
    refine zd E ?_; clear E a; intro a E
    iterate 3 (refine zn E rfl ?_; clear E a; intro a E)
    refine zp E (zAe E rfl rfl rfl rfl) ?_; clear E a; intro a E
    refine zd E ?_; clear E a; intro a E
    iterate 3 (refine zn E rfl ?_; clear E a; intro a E)
    refine zp E (zAe E rfl rfl rfl rfl) ?_; clear E a; intro a E
    refine zd E ?_; clear E a; intro a E
    iterate 12 (refine zn E rfl ?_; clear E a; intro a E)
    refine zp E (zAe E rfl rfl rfl rfl) ?_; clear E a; intro a E
    refine zd E ?_; clear E a; intro a E
    refine wpList_nil ?_
    refine zAb hK ?_; clear hK K
    refine wp_ret ?_
    refine ret1 E rfl rfl ?_
    refine ⟨_, rfl, ?_, S.tail.tr⟩
    congr 1
    clear S E H hR hs
    unfold zCa
    simp_all <;> first | (intros; omega) | (rw [Bool.eq_iff_iff]; simp only [beq_iff_eq, decide_eq_true_eq, Bool.and_eq_true, ← List.length_eq_zero_iff]; omega)
  ·have hb11n := hb11; replace hb11n := Nrm.nrm hb11n
   iterate 3 (refine zn E hb11 ?_; clear E a; intro a E)
   refine zp E (zAe E rfl rfl hb11 rfl) ?_; clear E a; intro a E
   refine zd E ?_; clear E a; intro a E
   iterate 3 (refine zn E rfl ?_; clear E a; intro a E)
   refine zp E (zAe E rfl rfl rfl rfl) ?_; clear E a; intro a E
   refine zd E ?_; clear E a; intro a E
   iterate 3 (refine zn E rfl ?_; clear E a; intro a E)
   refine zp E (zAe E rfl rfl rfl rfl) ?_; clear E a; intro a E
   refine zd E ?_; clear E a; intro a E
   iterate 3 (refine zn E rfl ?_; clear E a; intro a E)
   refine zp E (zAe E rfl rfl rfl rfl) ?_; clear E a; intro a E
   refine zd E ?_; clear E a; intro a E
   iterate 3 (refine zn E rfl ?_; clear E a; intro a E)
   refine zp E (zAe E rfl rfl rfl rfl) ?_; clear E a; intro a E
   refine zd E ?_; clear E a; intro a E
   iterate 3 (refine zn E rfl ?_; clear E a; intro a E)
   refine zp E (zAe E rfl rfl rfl rfl) ?_; clear E a; intro a E
   refine zd E ?_; clear E a; intro a E
   iterate 3 (refine zn E rfl ?_; clear E a; intro a E)
   refine zp E (zAe E rfl rfl rfl rfl) ?_; clear E a; intro a E
   refine zd E ?_; clear E a; intro a E
   iterate 12 (refine zn E rfl ?_; clear E a; intro a E)
   refine zp E (zAe E rfl rfl rfl rfl) ?_; clear E a; intro a E
   refine zd E ?_; clear E a; intro a E
   refine wpList_nil ?_
   refine zAb hK ?_; clear hK K
   refine wp_ret ?_
   refine ret1 E rfl rfl ?_
   refine ⟨_, rfl, ?_, S.tail.tr⟩
   congr 1
   clear S E H hR hs
   unfold zCa
   simp_all <;> first | (intros; omega) | (rw [Bool.eq_iff_iff]; simp only [beq_iff_eq, decide_eq_true_eq, Bool.and_eq_true, ← List.length_eq_zero_iff]; omega)
 ·have hb6n := hb6; replace hb6n := Nrm.nrm hb6n
  iterate 3 (refine zn E hb6 ?_; clear E a; intro a E)
  refine zp E (zAe E rfl rfl hb6 rfl) ?_; clear E a; intro a E
  refine zd E ?_; clear E a; intro a E
  iterate 3 (refine zn E rfl ?_; clear E a; intro a E)
  refine zp E (zAe E rfl rfl rfl rfl) ?_; clear E a; intro a E
  refine zd E ?_; clear E a; intro a E
  iterate 3 (refine zn E rfl ?_; clear E a; intro a E)
  refine zp E (zAe E rfl rfl rfl rfl) ?_; clear E a; intro a E
  refine zd E ?_; clear E a; intro a E
  iterate 3 (refine zn E rfl ?_; clear E a; intro a E)
  refine zp E (zAe E rfl rfl rfl rfl) ?_; clear E a; intro a E
  refine zd E ?_; clear E a; intro a E
  iterate 3 (refine zn E rfl ?_; clear E a; intro a E)
  refine zp E (zAe E rfl rfl rfl rfl) ?_; clear E a; intro a E
  refine zd E ?_; clear E a; intro a E
  iterate 3 (refine zn E rfl ?_; clear E a; intro a E)
  refine zp E (zAe E rfl rfl rfl rfl) ?_; clear E a; intro a E
  refine zd E ?_; clear E a; intro a E
  iterate 3 (refine zn E rfl ?_; clear E a; intro a E)
  refine zp E (zAe E rfl rfl rfl rfl) ?_; clear E a; intro a E
  refine zd E ?_; clear E a; intro a E
  iterate 3 (refine zn E rfl ?_; clear E a; intro a E)
  refine zp E (zAe E rfl rfl rfl rfl) ?_; clear E a; intro a E
  refine zd E ?_; clear E a; intro a E
  iterate 12 (refine zn E rfl ?_; clear E a; intro a E)
  refine zp E (zAe E rfl rfl rfl rfl) ?_; clear E a; intro a E
  refine zd E ?_; clear E a; intro a E
  refine wpList_nil ?_
  refine zAb hK ?_; clear hK K
  refine wp_ret ?_
  refine ret1 E rfl rfl ?_
  refine ⟨_, rfl, ?_, S.tail.tr⟩
  congr 1
  clear S E H hR hs
  unfold zCa
  simp_all <;> first | (intros; omega) | (rw [Bool.eq_iff_iff]; simp only [beq_iff_eq, decide_eq_true_eq, Bool.and_eq_true, ← List.length_eq_zero_iff]; omega)
theorem begin_ret : Ret Tryz.prog 96 #[.agg (r.cells pv kv dv).toArray] w0 fun u w' => u = .bool (begB r) ∧ Trs w0 w' As As := by
 have S := St.begin H
 have h1 := hs.name
 have h2 := hs.snap
 refine zCd 60 Tryz.func96 rfl rfl dZ ?_; intro a E
 refine wp_seq_k ?_; intro K hK
 refine zAa ?_
 refine zAg rfl (zBx E S rfl rfl dZ rfl rfl ?_); clear E S a; intro a w b1 E S
 refine zd E ?_; clear E a; intro a E
 refine wpList_nil ?_
 refine zAb hK ?_; clear hK K
 refine wp_seq_k ?_; intro K hK
 obtain ⟨nm, hnm⟩ : ∃ nm, nm = r.name := ⟨_, rfl⟩
 have hcells : r.cells pv kv dv = [.int .i64 r.kind, str nm, .int .i64 r.typ, .int .i64 r.frm, .int .i64 r.guid, .int .i64 r.origin, str r.snap, pv, .int .i64 r.object, .int .i64 r.at_, .int .i64 r.many, kv, dv] := (by rw [hnm]; rfl)
 rw [hcells] at S
 refine zDd (fun (a : Act) (w' : World) => St w0 As w' ([(b1, cel [.int .i64 r.kind, str nm, .int .i64 r.typ, .int .i64 r.frm, .int .i64 r.guid, .int .i64 r.origin, str r.snap, pv, .int .i64 r.object, .int .i64 r.at_, .int .i64 r.many, kv, dv] 26)] :: As) ∧ Fr a 60 [(1, ptr b1), (3, .bool (behB nm))]) ?_ ?_
 ·skip
  refine zAa ?_
  refine zp E (by first | exact zAc (q := 1) E rfl rfl rfl | exact zAd (q := 1) E rfl rfl rfl) ?_; clear E a; intro a E
  iterate 3 (refine zd E ?_; clear E a; intro a E)
  refine zAj E (t := 7) rfl (fun hb7 => ?_) (fun hb7 => ?_)
  ·have hb7n := hb7; replace hb7n := Nrm.nrm hb7n
   iterate 5 (refine zn E hb7 ?_; clear E a; intro a E)
   iterate 4 (refine zu E ?_; clear E a; intro a E)
   refine zn E hb7 ?_; clear E a; intro a E
   refine zp E (zAf E rfl rfl hb7 rfl) ?_; clear E a; intro a E
   refine zd E ?_; clear E a; intro a E
   refine wpList_nil ?_
   refine zAk ?_
   subst hb7n; exact ⟨S, E.keep (kE2 rfl rfl)⟩
  ·have hb7n := hb7; replace hb7n := Nrm.nrm hb7n
   obtain ⟨c0, tl, rfl⟩ := List.exists_cons_of_ne_nil hb7n
   refine zy E hb7 (by first | exact zAc (q := 1) E rfl rfl rfl | exact zAd (q := 1) E rfl rfl rfl) ?_; clear E a; intro a E
   refine zyd E hb7 ?_; clear E a; intro a E
   refine zy E hb7 (zCi (l := c0 :: tl) (i := 0) E rfl rfl rfl rfl rfl (Nat.succ_pos _)) ?_; clear E a; intro a E
   iterate 2 (refine zyd E hb7 ?_; clear E a; intro a E)
   refine zAj E (t := 12) rfl (fun hb12 => ?_) (fun hb12 => ?_)
   ·have hb12n := hb12; replace hb12n := Nrm.nrm hb12n
    refine zy E hb12 (by first | exact zAc (q := 1) E rfl rfl rfl | exact zAd (q := 1) E rfl rfl rfl) ?_; clear E a; intro a E
    refine zyd E hb12 ?_; clear E a; intro a E
    refine zy E hb12 (rn_cat E rfl rfl rfl (by rw [← hnm] at h1; simp only [List.length_cons, List.length_nil] at *; omega)) ?_; clear E a; intro a E
    refine zBk E rfl rfl rfl rfl hb12 ?_; refine zBy E rfl dZ rfl Tryz.func115 rfl yZ rfl (name_ret (120 :: c0 :: tl) (by rw [List.length_cons, hnm]; omega) _ _ S.hp) ?_
    rintro v16 w ⟨rfl, hT⟩; clear E a; intro a E
    have S := S.all hT
    refine zy E hb7 (zAf E rfl rfl hb12 rfl) ?_; clear E a; intro a E
    refine zp E (zAe E rfl rfl hb7 rfl) ?_; clear E a; intro a E
    refine zd E ?_; clear E a; intro a E
    refine wpList_nil ?_
    refine zAk ?_
    have hb12n : (c0.toNat : Int) = 47 := hb12n
    have e : c0 = 47 := UInt8.toNat_inj.1 (show c0.toNat = 47 by omega)
    have e2 : behB (c0 :: tl) = nameB (120 :: c0 :: tl) := by simp [behB, e]
    rw [e2]
    exact ⟨S, E.keep (kE2 rfl rfl)⟩
   ·have hb12n := hb12; replace hb12n := Nrm.nrm hb12n
    iterate 4 (refine zn E hb12 ?_; clear E a; intro a E)
    refine zy E hb7 (zAe E rfl rfl hb12 rfl) ?_; clear E a; intro a E
    refine zp E (zAe E rfl rfl hb7 rfl) ?_; clear E a; intro a E
    refine zd E ?_; clear E a; intro a E
    refine wpList_nil ?_
    refine zAk ?_
    have e : ¬ c0 = 47 := fun q => by subst q; simp at hb12n
    have e2 : behB (c0 :: tl) = false := by simp [behB, e]
    rw [e2]
    exact ⟨S, E.keep (kE2 rfl rfl)⟩
 ·clear E S a; intro a w J; obtain ⟨S, E⟩ := J
  refine zAb hK ?_; clear hK K
  refine wp_seq_k ?_; intro K hK
  refine zAa ?_
  iterate 2 (refine zd E ?_; clear E a; intro a E)
  refine zAj E (t := 20) rfl (fun hb20 => ?_) (fun hb20 => ?_)
  ·have hb20n := hb20; replace hb20n := Nrm.nrm hb20n
   refine zy E hb20 (by first | exact zAc (q := 2) E rfl rfl rfl | exact zAd (q := 2) E rfl rfl rfl) ?_; clear E a; intro a E
   refine zyd E hb20 ?_; clear E a; intro a E
   refine zBk E rfl rfl rfl rfl hb20 ?_; refine zBy E rfl dZ rfl Tryz.func49 rfl yZ rfl (zDf r.typ 1 2 _ _ S.hp) ?_
   rintro v23 w ⟨rfl, hT⟩; clear E a; intro a E
   have S := S.all hT
   refine zp E (zAf E rfl rfl hb20 rfl) ?_; clear E a; intro a E
   refine zd E ?_; clear E a; intro a E
   refine zAj E (t := 25) rfl (fun hb25 => ?_) (fun hb25 => ?_)
   ·have hb25n := hb25; replace hb25n := Nrm.nrm hb25n
    refine zy E hb25 (by first | exact zAc (q := 3) E rfl rfl rfl | exact zAd (q := 3) E rfl rfl rfl) ?_; clear E a; intro a E
    refine zyd E hb25 ?_; clear E a; intro a E
    refine zBk E rfl rfl rfl rfl hb25 ?_; refine zBy E rfl dZ rfl Tryz.func49 rfl yZ rfl (zDf r.frm 0 2199023255552 _ _ S.hp) ?_
    rintro v28 w ⟨rfl, hT⟩; clear E a; intro a E
    have S := S.all hT
    refine zp E (zAf E rfl rfl hb25 rfl) ?_; clear E a; intro a E
    refine zd E ?_; clear E a; intro a E
    refine zAj E (t := 30) rfl (fun hb30 => ?_) (fun hb30 => ?_)
    ·have hb30n := hb30; replace hb30n := Nrm.nrm hb30n
     refine zy E hb30 (by first | exact zAc (q := 4) E rfl rfl rfl | exact zAd (q := 4) E rfl rfl rfl) ?_; clear E a; intro a E
     refine zyd E hb30 ?_; clear E a; intro a E
     refine zBk E rfl rfl rfl rfl hb30 ?_; refine zBy E rfl dZ rfl Tryz.func49 rfl yZ rfl (zDf r.guid 1 2199023255552 _ _ S.hp) ?_
     rintro v33 w ⟨rfl, hT⟩; clear E a; intro a E
     have S := S.all hT
     refine zp E (zAf E rfl rfl hb30 rfl) ?_; clear E a; intro a E
     refine zd E ?_; clear E a; intro a E
     refine zAj E (t := 35) rfl (fun hb35 => ?_) (fun hb35 => ?_)
     ·have hb35n := hb35; replace hb35n := Nrm.nrm hb35n
      refine zy E hb35 (by first | exact zAc (q := 5) E rfl rfl rfl | exact zAd (q := 5) E rfl rfl rfl) ?_; clear E a; intro a E
      iterate 3 (refine zyd E hb35 ?_; clear E a; intro a E)
      refine zAj E (t := 39) rfl (fun hb39 => ?_) (fun hb39 => ?_)
      ·have hb39n := hb39; replace hb39n := Nrm.nrm hb39n
       iterate 4 (refine zn E hb39 ?_; clear E a; intro a E)
       iterate 3 (refine zu E ?_; clear E a; intro a E)
       refine zn E hb39 ?_; clear E a; intro a E
       refine zy E hb35 (zAf E rfl rfl hb39 rfl) ?_; clear E a; intro a E
       refine zp E (zAf E rfl rfl hb35 rfl) ?_; clear E a; intro a E
       refine zd E ?_; clear E a; intro a E
       refine zy E rfl (by first | exact zAc (q := 6) E rfl rfl rfl | exact zAd (q := 6) E rfl rfl rfl) ?_; clear E a; intro a E
       refine zyd E rfl ?_; clear E a; intro a E
       refine zBk E rfl rfl rfl rfl rfl ?_; refine zBy E rfl dZ rfl Tryz.func48 rfl yZ rfl (zIb r.snap oZ _ _ S.hp) ?_
       rintro v53 w ⟨rfl, hT⟩; clear E a; intro a E
       have S := S.all hT
       refine zp E (zAf E rfl rfl rfl rfl) ?_; clear E a; intro a E
       refine zd E ?_; clear E a; intro a E
       refine zAj E (t := 55) rfl (fun hb55 => ?_) (fun hb55 => ?_)
       ·have hb55n := hb55; replace hb55n := Nrm.nrm hb55n
        refine zy E hb55 (by first | exact zAc (q := 7) E rfl rfl rfl | exact zAd (q := 7) E rfl rfl rfl) ?_; clear E a; intro a E
        refine zyd E hb55 ?_; clear E a; intro a E
        refine zBk E rfl rfl rfl rfl hb55 ?_; refine zBy E rfl dZ rfl Tryz.func116 rfl yZ rfl (props_ret C pv r.props hR.pr (by have := hs.props; omega) hs.prop _ (List.mem_cons_of_mem _ hC) _ S.hp) ?_
        rintro v58 w ⟨rfl, hT⟩; clear E a; intro a E
        have S := S.all hT
        refine zp E (zAf E rfl rfl hb55 rfl) ?_; clear E a; intro a E
        refine zd E ?_; clear E a; intro a E
        refine wpList_nil ?_
        refine zAb hK ?_; clear hK K
        refine wp_ret ?_
        refine ret1 E rfl rfl ?_
        refine ⟨_, rfl, ?_, S.tail.tr⟩
        congr 1
        rw [Bool.eq_iff_iff, zDn]
        unfold begP
        rw [← hnm]
        clear S E hcells hnm H hR hs h1 h2
        simp_all <;> (intros; omega)
       ·have hb55n := hb55; replace hb55n := Nrm.nrm hb55n
        iterate 3 (refine zn E hb55 ?_; clear E a; intro a E)
        refine zp E (zAe E rfl rfl hb55 rfl) ?_; clear E a; intro a E
        refine zd E ?_; clear E a; intro a E
        refine wpList_nil ?_
        refine zAb hK ?_; clear hK K
        refine wp_ret ?_
        refine ret1 E rfl rfl ?_
        refine ⟨_, rfl, ?_, S.tail.tr⟩
        congr 1
        rw [Bool.eq_iff_iff, zDn]
        unfold begP
        rw [← hnm]
        clear S E hcells hnm H hR hs h1 h2
        simp_all <;> (intros; omega)
      ·have hb39n := hb39; replace hb39n := Nrm.nrm hb39n
       refine zy E hb39 (by first | exact zAc (q := 5) E rfl rfl rfl | exact zAd (q := 5) E rfl rfl rfl) ?_; clear E a; intro a E
       iterate 3 (refine zyd E hb39 ?_; clear E a; intro a E)
       refine zAj E (t := 43) rfl (fun hb43 => ?_) (fun hb43 => ?_)
       ·have hb43n := hb43; replace hb43n := Nrm.nrm hb43n
        refine zy E hb43 (by first | exact zAc (q := 3) E rfl rfl rfl | exact zAd (q := 3) E rfl rfl rfl) ?_; clear E a; intro a E
        iterate 2 (refine zyd E hb43 ?_; clear E a; intro a E)
        refine zy E hb39 (zAf E rfl rfl hb43 rfl) ?_; clear E a; intro a E
        refine zy E hb35 (zAe E rfl rfl hb39 rfl) ?_; clear E a; intro a E
        refine zp E (zAf E rfl rfl hb35 rfl) ?_; clear E a; intro a E
        refine zd E ?_; clear E a; intro a E
        refine zAj E (t := 50) rfl (fun hb50 => ?_) (fun hb50 => ?_)
        ·have hb50n := hb50; replace hb50n := Nrm.nrm hb50n
         refine zy E hb50 (by first | exact zAc (q := 6) E rfl rfl rfl | exact zAd (q := 6) E rfl rfl rfl) ?_; clear E a; intro a E
         refine zyd E hb50 ?_; clear E a; intro a E
         refine zBk E rfl rfl rfl rfl hb50 ?_; refine zBy E rfl dZ rfl Tryz.func48 rfl yZ rfl (zIb r.snap oZ _ _ S.hp) ?_
         rintro v53 w ⟨rfl, hT⟩; clear E a; intro a E
         have S := S.all hT
         refine zp E (zAf E rfl rfl hb50 rfl) ?_; clear E a; intro a E
         refine zd E ?_; clear E a; intro a E
         refine zAj E (t := 55) rfl (fun hb55 => ?_) (fun hb55 => ?_)
         ·have hb55n := hb55; replace hb55n := Nrm.nrm hb55n
          refine zy E hb55 (by first | exact zAc (q := 7) E rfl rfl rfl | exact zAd (q := 7) E rfl rfl rfl) ?_; clear E a; intro a E
          refine zyd E hb55 ?_; clear E a; intro a E
          refine zBk E rfl rfl rfl rfl hb55 ?_; refine zBy E rfl dZ rfl Tryz.func116 rfl yZ rfl (props_ret C pv r.props hR.pr (by have := hs.props; omega) hs.prop _ (List.mem_cons_of_mem _ hC) _ S.hp) ?_
          rintro v58 w ⟨rfl, hT⟩; clear E a; intro a E
          have S := S.all hT
          refine zp E (zAf E rfl rfl hb55 rfl) ?_; clear E a; intro a E
          refine zd E ?_; clear E a; intro a E
          refine wpList_nil ?_
          refine zAb hK ?_; clear hK K
          refine wp_ret ?_
          refine ret1 E rfl rfl ?_
          refine ⟨_, rfl, ?_, S.tail.tr⟩
          congr 1
          rw [Bool.eq_iff_iff, zDn]
          unfold begP
          rw [← hnm]
          clear S E hcells hnm H hR hs h1 h2
          simp_all <;> (intros; omega)
         ·have hb55n := hb55; replace hb55n := Nrm.nrm hb55n
          iterate 3 (refine zn E hb55 ?_; clear E a; intro a E)
          refine zp E (zAe E rfl rfl hb55 rfl) ?_; clear E a; intro a E
          refine zd E ?_; clear E a; intro a E
          refine wpList_nil ?_
          refine zAb hK ?_; clear hK K
          refine wp_ret ?_
          refine ret1 E rfl rfl ?_
          refine ⟨_, rfl, ?_, S.tail.tr⟩
          congr 1
          rw [Bool.eq_iff_iff, zDn]
          unfold begP
          rw [← hnm]
          clear S E hcells hnm H hR hs h1 h2
          simp_all <;> (intros; omega)
        ·have hb50n := hb50; replace hb50n := Nrm.nrm hb50n
         iterate 3 (refine zn E hb50 ?_; clear E a; intro a E)
         refine zp E (zAe E rfl rfl hb50 rfl) ?_; clear E a; intro a E
         refine zd E ?_; clear E a; intro a E
         iterate 3 (refine zn E rfl ?_; clear E a; intro a E)
         refine zp E (zAe E rfl rfl rfl rfl) ?_; clear E a; intro a E
         refine zd E ?_; clear E a; intro a E
         refine wpList_nil ?_
         refine zAb hK ?_; clear hK K
         refine wp_ret ?_
         refine ret1 E rfl rfl ?_
         refine ⟨_, rfl, ?_, S.tail.tr⟩
         congr 1
         rw [Bool.eq_iff_iff, zDn]
         unfold begP
         rw [← hnm]
         clear S E hcells hnm H hR hs h1 h2
         simp_all <;> (intros; omega)
       ·have hb43n := hb43; replace hb43n := Nrm.nrm hb43n
        iterate 3 (refine zn E hb43 ?_; clear E a; intro a E)
        refine zy E hb39 (zAe E rfl rfl hb43 rfl) ?_; clear E a; intro a E
        refine zy E hb35 (zAe E rfl rfl hb39 rfl) ?_; clear E a; intro a E
        refine zp E (zAf E rfl rfl hb35 rfl) ?_; clear E a; intro a E
        refine zd E ?_; clear E a; intro a E
        iterate 3 (refine zn E rfl ?_; clear E a; intro a E)
        refine zp E (zAe E rfl rfl rfl rfl) ?_; clear E a; intro a E
        refine zd E ?_; clear E a; intro a E
        iterate 3 (refine zn E rfl ?_; clear E a; intro a E)
        refine zp E (zAe E rfl rfl rfl rfl) ?_; clear E a; intro a E
        refine zd E ?_; clear E a; intro a E
        refine wpList_nil ?_
        refine zAb hK ?_; clear hK K
        refine wp_ret ?_
        refine ret1 E rfl rfl ?_
        refine ⟨_, rfl, ?_, S.tail.tr⟩
        congr 1
        rw [Bool.eq_iff_iff, zDn]
        unfold begP
        rw [← hnm]
        clear S E hcells hnm H hR hs h1 h2
        simp_all <;> (intros; omega)
     ·have hb35n := hb35; replace hb35n := Nrm.nrm hb35n
      iterate 4 (refine zn E hb35 ?_; clear E a; intro a E)
      iterate 8 (refine zu E ?_; clear E a; intro a E)
      refine zn E hb35 ?_; clear E a; intro a E
      refine zp E (zAe E rfl rfl hb35 rfl) ?_; clear E a; intro a E
      refine zd E ?_; clear E a; intro a E
      iterate 3 (refine zn E rfl ?_; clear E a; intro a E)
      refine zp E (zAe E rfl rfl rfl rfl) ?_; clear E a; intro a E
      refine zd E ?_; clear E a; intro a E
      iterate 3 (refine zn E rfl ?_; clear E a; intro a E)
      refine zp E (zAe E rfl rfl rfl rfl) ?_; clear E a; intro a E
      refine zd E ?_; clear E a; intro a E
      refine wpList_nil ?_
      refine zAb hK ?_; clear hK K
      refine wp_ret ?_
      refine ret1 E rfl rfl ?_
      refine ⟨_, rfl, ?_, S.tail.tr⟩
      congr 1
      rw [Bool.eq_iff_iff, zDn]
      unfold begP
      rw [← hnm]
      clear S E hcells hnm H hR hs h1 h2
      simp_all <;> (intros; omega)
    ·have hb30n := hb30; replace hb30n := Nrm.nrm hb30n
     iterate 3 (refine zn E hb30 ?_; clear E a; intro a E)
     refine zp E (zAe E rfl rfl hb30 rfl) ?_; clear E a; intro a E
     refine zd E ?_; clear E a; intro a E
     iterate 4 (refine zn E rfl ?_; clear E a; intro a E)
     iterate 8 (refine zu E ?_; clear E a; intro a E)
     refine zn E rfl ?_; clear E a; intro a E
     refine zp E (zAe E rfl rfl rfl rfl) ?_; clear E a; intro a E
     refine zd E ?_; clear E a; intro a E
     iterate 3 (refine zn E rfl ?_; clear E a; intro a E)
     refine zp E (zAe E rfl rfl rfl rfl) ?_; clear E a; intro a E
     refine zd E ?_; clear E a; intro a E
     iterate 3 (refine zn E rfl ?_; clear E a; intro a E)
     refine zp E (zAe E rfl rfl rfl rfl) ?_; clear E a; intro a E
     refine zd E ?_; clear E a; intro a E
     refine wpList_nil ?_
     refine zAb hK ?_; clear hK K
     refine wp_ret ?_
     refine ret1 E rfl rfl ?_
     refine ⟨_, rfl, ?_, S.tail.tr⟩
     congr 1
     rw [Bool.eq_iff_iff, zDn]
     unfold begP
     rw [← hnm]
     clear S E hcells hnm H hR hs h1 h2
     simp_all <;> (intros; omega)
   ·have hb25n := hb25; replace hb25n := Nrm.nrm hb25n
    iterate 3 (refine zn E hb25 ?_; clear E a; intro a E)
    refine zp E (zAe E rfl rfl hb25 rfl) ?_; clear E a; intro a E
    refine zd E ?_; clear E a; intro a E
    iterate 3 (refine zn E rfl ?_; clear E a; intro a E)
    refine zp E (zAe E rfl rfl rfl rfl) ?_; clear E a; intro a E
    refine zd E ?_; clear E a; intro a E
    iterate 4 (refine zn E rfl ?_; clear E a; intro a E)
    iterate 8 (refine zu E ?_; clear E a; intro a E)
    refine zn E rfl ?_; clear E a; intro a E
    refine zp E (zAe E rfl rfl rfl rfl) ?_; clear E a; intro a E
    refine zd E ?_; clear E a; intro a E
    iterate 3 (refine zn E rfl ?_; clear E a; intro a E)
    refine zp E (zAe E rfl rfl rfl rfl) ?_; clear E a; intro a E
    refine zd E ?_; clear E a; intro a E
    iterate 3 (refine zn E rfl ?_; clear E a; intro a E)
    refine zp E (zAe E rfl rfl rfl rfl) ?_; clear E a; intro a E
    refine zd E ?_; clear E a; intro a E
    refine wpList_nil ?_
    refine zAb hK ?_; clear hK K
    refine wp_ret ?_
    refine ret1 E rfl rfl ?_
    refine ⟨_, rfl, ?_, S.tail.tr⟩
    congr 1
    rw [Bool.eq_iff_iff, zDn]
    unfold begP
    rw [← hnm]
    clear S E hcells hnm H hR hs h1 h2
    simp_all <;> (intros; omega)
  ·have hb20n := hb20; replace hb20n := Nrm.nrm hb20n
   iterate 3 (refine zn E hb20 ?_; clear E a; intro a E)
   refine zp E (zAe E rfl rfl hb20 rfl) ?_; clear E a; intro a E
   refine zd E ?_; clear E a; intro a E
   iterate 3 (refine zn E rfl ?_; clear E a; intro a E)
   refine zp E (zAe E rfl rfl rfl rfl) ?_; clear E a; intro a E
   refine zd E ?_; clear E a; intro a E
   iterate 3 (refine zn E rfl ?_; clear E a; intro a E)
   refine zp E (zAe E rfl rfl rfl rfl) ?_; clear E a; intro a E
   refine zd E ?_; clear E a; intro a E
   iterate 4 (refine zn E rfl ?_; clear E a; intro a E)
   iterate 8 (refine zu E ?_; clear E a; intro a E)
   refine zn E rfl ?_; clear E a; intro a E
   refine zp E (zAe E rfl rfl rfl rfl) ?_; clear E a; intro a E
   refine zd E ?_; clear E a; intro a E
   iterate 3 (refine zn E rfl ?_; clear E a; intro a E)
   refine zp E (zAe E rfl rfl rfl rfl) ?_; clear E a; intro a E
   refine zd E ?_; clear E a; intro a E
   iterate 3 (refine zn E rfl ?_; clear E a; intro a E)
   refine zp E (zAe E rfl rfl rfl rfl) ?_; clear E a; intro a E
   refine zd E ?_; clear E a; intro a E
   refine wpList_nil ?_
   refine zAb hK ?_; clear hK K
   refine wp_ret ?_
   refine ret1 E rfl rfl ?_
   refine ⟨_, rfl, ?_, S.tail.tr⟩
   congr 1
   rw [Bool.eq_iff_iff, zDn]
   unfold begP
   rw [← hnm]
   clear S E hcells hnm H hR hs h1 h2
   simp_all <;> (intros; omega)
end
end Go.Proofs.YtbogecljkaimdaaGreatDoor
namespace Go.Sl
theorem bare1 {r : Rec} (h : r.kind = 1) : zDb r = { r with name := [], many := 0 } := by simp [zDb, h]
theorem bare2 {r : Rec} (h : r.kind = 2) : zDb r = { r with name := [], typ := 0, frm := 0, guid := 0, origin := 0, snap := [], props := [] } := by simp [zDb, h]
theorem bare3 {r : Rec} (h : r.kind = 3) : zDb r = { r with keep := [] } := by simp [zDb, h]
theorem bare4 {r : Rec} (h : r.kind = 4) : zDb r = { r with object := 0, keep := [] } := by simp [zDb, h]
theorem bare5 {r : Rec} (h : r.kind = 5) : zDb r = { r with object := 0, at_ := 0, data := [] } := by simp [zDb, h]
theorem bare6 {r : Rec} (h1 : r.kind ≠ 1) (h2 : r.kind ≠ 2) (h3 : r.kind ≠ 3) (h4 : r.kind ≠ 4) (h5 : r.kind ≠ 5) : zDb r = { r with many := 0 } := by simp [zDb, h1, h2, h3, h4, h5]
theorem Sml.bare {r : Rec} (h : Sml r) : Sml (zDb r) := by
 obtain ⟨h1, h2, h3, h4, h5, h6⟩ := h
 unfold zDb
 repeat' split
 all_goals constructor <;> first | assumption | (simp; done)
end Go.Sl
namespace Go.Proofs.YtbogecljkaimdaaGreatDoor
open Go.Sl
set_option maxRecDepth 10000
theorem bare_ret {C : zAl} {r : Rec} {pv kv dv : Value} (hR : RecR C r pv kv dv) {As : List zAl} (w0 : World) (H : Hp w0 As) :
  Ret Tryz.prog 27 #[.agg (r.cells pv kv dv).toArray] w0 fun u w' => ∃ pv' kv' dv', u = .agg ((zDb r).cells pv' kv' dv').toArray ∧ RecR C (zDb r) pv' kv' dv' ∧ Trs w0 w' As As := by
 have S := St.begin H
 obtain ⟨ad1, c1, rfl⟩ := hR.pr.slice
 obtain ⟨ad2, c2, rfl⟩ := hR.kr.slice
 obtain ⟨ad3, c3, rfl⟩ := hR.dr.slice
 refine zCd 32 Tryz.func27 rfl rfl dZ ?_; intro a E
 refine wp_seq_k ?_; intro K hK
 refine zAa ?_
 refine zAg rfl (zBx E S rfl rfl dZ rfl rfl ?_); clear E S a; intro a w b1 E S
 refine zAg rfl (zBf E S rfl rfl dZ rfl rfl rfl ?_); clear E S a; intro a w b2 E S
 refine wpList_nil ?_
 refine zAb hK ?_; clear hK K
 iterate 2 (refine wp_seq_k ?_; intro K hK)
 refine zAa ?_
 refine zp E (by first | exact zAc (q := 0) E rfl rfl rfl | exact zAd (q := 0) E rfl rfl rfl) ?_; clear E a; intro a E
 refine zd E ?_; clear E a; intro a E
 refine wpList_nil ?_
 refine zAb hK ?_; clear hK K
 refine wp_block ?_
 refine wp_seq_k ?_; intro K hK
 refine zAa ?_
 iterate 2 (refine zd E ?_; clear E a; intro a E)
 refine wpList_nil ?_
 refine zAb hK ?_; clear hK K
 refine zAs E rfl (fun hb => ?_) (fun hb => ?_)
 ·replace hb := Nrm.nrm hb
  have k1 := hb
  refine zAa ?_
  refine zp E (by first | exact zAc (q := 1) E rfl rfl rfl | exact zAd (q := 1) E rfl rfl rfl) ?_; clear E a; intro a E
  refine zAg rfl (zAv E S rfl rfl rfl rfl rfl rfl pZ (by first | exact Nat.le_of_ble_eq_true rfl | (simp; done) | (simp; omega)) ?_); clear E S a; intro a w E S; try dsimp only [List.set] at S
  refine zp E (by first | exact zAc (q := 10) E rfl rfl rfl | exact zAd (q := 10) E rfl rfl rfl) ?_; clear E a; intro a E
  refine zAg rfl (zAv E S rfl rfl rfl rfl rfl rfl pZ (by first | exact Nat.le_of_ble_eq_true rfl | (simp; done) | (simp; omega)) ?_); clear E S a; intro a w E S; try dsimp only [List.set] at S
  refine wpList_nil ?_
  refine zAr ?_
  refine zAb hK ?_; clear hK K
  refine wp_seq_k ?_; intro K hK
  refine zAa ?_
  refine zp E (zAz (vs := [_, _, _, _, _, _, _, _, _, _, _, _, _]) E rfl rfl rfl (S.get pZ) rfl rfl) ?_; clear E a; intro a E
  refine zAg rfl (zAq E S rfl rfl rfl rfl (by simp [Value.oneCell']) rfl pZ (by simp) ?_); clear E S a; intro a w E S; simp only [List.take_succ_cons, List.take_zero, List.drop_succ_cons, List.drop_zero, List.cons_append, List.nil_append, List.append_nil, List.length_cons, List.length_nil, Nat.zero_add, Nat.add_zero] at S
  refine wpList_nil ?_
  refine zAb hK ?_; clear hK K
  refine wp_ret ?_
  refine zFu E rfl rfl (S.get pZ) rfl ?_
  have S := S.tail2
  first
   | (rw [bare1 k1]; exact ⟨_, rfl, _, _, _, rfl, ⟨hR.pr, hR.kr, hR.dr⟩, S.tr⟩)
   | (rw [bare2 k2]; exact ⟨_, rfl, _, _, _, rfl, ⟨Rd.nil _ _, hR.kr, hR.dr⟩, S.tr⟩)
   | (rw [bare3 k3]; exact ⟨_, rfl, _, _, _, rfl, ⟨hR.pr, Rd.nil _ _, hR.dr⟩, S.tr⟩)
   | (rw [bare4 k4]; exact ⟨_, rfl, _, _, _, rfl, ⟨hR.pr, Rd.nil _ _, hR.dr⟩, S.tr⟩)
   | (rw [bare5 k5]; exact ⟨_, rfl, _, _, _, rfl, ⟨hR.pr, hR.kr, Rd.nil _ _⟩, S.tr⟩)
   | (rw [bare6 k1 k2 k3 k4 k5]; exact ⟨_, rfl, _, _, _, rfl, ⟨hR.pr, hR.kr, hR.dr⟩, S.tr⟩)
 ·replace hb := Nrm.nrm hb
  have k1 := hb
  refine wp_seq_k ?_; intro K hK
  refine zAa ?_
  iterate 2 (refine zd E ?_; clear E a; intro a E)
  refine wpList_nil ?_
  refine zAb hK ?_; clear hK K
  refine zAs E rfl (fun hb => ?_) (fun hb => ?_)
  ·replace hb := Nrm.nrm hb
   have k2 := hb
   refine zAa ?_
   refine zp E (by first | exact zAc (q := 1) E rfl rfl rfl | exact zAd (q := 1) E rfl rfl rfl) ?_; clear E a; intro a E
   refine zAg rfl (zAv E S rfl rfl rfl rfl rfl rfl pZ (by first | exact Nat.le_of_ble_eq_true rfl | (simp; done) | (simp; omega)) ?_); clear E S a; intro a w E S; try dsimp only [List.set] at S
   refine zp E (by first | exact zAc (q := 2) E rfl rfl rfl | exact zAd (q := 2) E rfl rfl rfl) ?_; clear E a; intro a E
   refine zAg rfl (zAv E S rfl rfl rfl rfl rfl rfl pZ (by first | exact Nat.le_of_ble_eq_true rfl | (simp; done) | (simp; omega)) ?_); clear E S a; intro a w E S; try dsimp only [List.set] at S
   refine zp E (by first | exact zAc (q := 3) E rfl rfl rfl | exact zAd (q := 3) E rfl rfl rfl) ?_; clear E a; intro a E
   refine zAg rfl (zAv E S rfl rfl rfl rfl rfl rfl pZ (by first | exact Nat.le_of_ble_eq_true rfl | (simp; done) | (simp; omega)) ?_); clear E S a; intro a w E S; try dsimp only [List.set] at S
   refine zp E (by first | exact zAc (q := 4) E rfl rfl rfl | exact zAd (q := 4) E rfl rfl rfl) ?_; clear E a; intro a E
   refine zAg rfl (zAv E S rfl rfl rfl rfl rfl rfl pZ (by first | exact Nat.le_of_ble_eq_true rfl | (simp; done) | (simp; omega)) ?_); clear E S a; intro a w E S; try dsimp only [List.set] at S
   refine zp E (by first | exact zAc (q := 5) E rfl rfl rfl | exact zAd (q := 5) E rfl rfl rfl) ?_; clear E a; intro a E
   refine zAg rfl (zAv E S rfl rfl rfl rfl rfl rfl pZ (by first | exact Nat.le_of_ble_eq_true rfl | (simp; done) | (simp; omega)) ?_); clear E S a; intro a w E S; try dsimp only [List.set] at S
   refine zp E (by first | exact zAc (q := 6) E rfl rfl rfl | exact zAd (q := 6) E rfl rfl rfl) ?_; clear E a; intro a E
   refine zAg rfl (zAv E S rfl rfl rfl rfl rfl rfl pZ (by first | exact Nat.le_of_ble_eq_true rfl | (simp; done) | (simp; omega)) ?_); clear E S a; intro a w E S; try dsimp only [List.set] at S
   refine zp E (by first | exact zAc (q := 7) E rfl rfl rfl | exact zAd (q := 7) E rfl rfl rfl) ?_; clear E a; intro a E
   refine zAg rfl (zAv E S rfl rfl rfl rfl rfl rfl pZ (by first | exact Nat.le_of_ble_eq_true rfl | (simp; done) | (simp; omega)) ?_); clear E S a; intro a w E S; try dsimp only [List.set] at S
   refine wpList_nil ?_
   refine zAr ?_
   refine zAb hK ?_; clear hK K
   refine wp_seq_k ?_; intro K hK
   refine zAa ?_
   refine zp E (zAz (vs := [_, _, _, _, _, _, _, _, _, _, _, _, _]) E rfl rfl rfl (S.get pZ) rfl rfl) ?_; clear E a; intro a E
   refine zAg rfl (zAq E S rfl rfl rfl rfl (by simp [Value.oneCell']) rfl pZ (by simp) ?_); clear E S a; intro a w E S; simp only [List.take_succ_cons, List.take_zero, List.drop_succ_cons, List.drop_zero, List.cons_append, List.nil_append, List.append_nil, List.length_cons, List.length_nil, Nat.zero_add, Nat.add_zero] at S
   refine wpList_nil ?_
   refine zAb hK ?_; clear hK K
   refine wp_ret ?_
   refine zFu E rfl rfl (S.get pZ) rfl ?_
   have S := S.tail2
   first
    | (rw [bare1 k1]; exact ⟨_, rfl, _, _, _, rfl, ⟨hR.pr, hR.kr, hR.dr⟩, S.tr⟩)
    | (rw [bare2 k2]; exact ⟨_, rfl, _, _, _, rfl, ⟨Rd.nil _ _, hR.kr, hR.dr⟩, S.tr⟩)
    | (rw [bare3 k3]; exact ⟨_, rfl, _, _, _, rfl, ⟨hR.pr, Rd.nil _ _, hR.dr⟩, S.tr⟩)
    | (rw [bare4 k4]; exact ⟨_, rfl, _, _, _, rfl, ⟨hR.pr, Rd.nil _ _, hR.dr⟩, S.tr⟩)
    | (rw [bare5 k5]; exact ⟨_, rfl, _, _, _, rfl, ⟨hR.pr, hR.kr, Rd.nil _ _⟩, S.tr⟩)
    | (rw [bare6 k1 k2 k3 k4 k5]; exact ⟨_, rfl, _, _, _, rfl, ⟨hR.pr, hR.kr, hR.dr⟩, S.tr⟩)
  ·replace hb := Nrm.nrm hb
   have k2 := hb
   refine wp_seq_k ?_; intro K hK
   refine zAa ?_
   iterate 2 (refine zd E ?_; clear E a; intro a E)
   refine wpList_nil ?_
   refine zAb hK ?_; clear hK K
   refine zAs E rfl (fun hb => ?_) (fun hb => ?_)
   ·replace hb := Nrm.nrm hb
    have k3 := hb
    refine zAa ?_
    refine zp E (by first | exact zAc (q := 11) E rfl rfl rfl | exact zAd (q := 11) E rfl rfl rfl) ?_; clear E a; intro a E
    refine zAg rfl (zAv E S rfl rfl rfl rfl rfl rfl pZ (by first | exact Nat.le_of_ble_eq_true rfl | (simp; done) | (simp; omega)) ?_); clear E S a; intro a w E S; try dsimp only [List.set] at S
    refine wpList_nil ?_
    refine zAr ?_
    refine zAb hK ?_; clear hK K
    refine wp_seq_k ?_; intro K hK
    refine zAa ?_
    refine zp E (zAz (vs := [_, _, _, _, _, _, _, _, _, _, _, _, _]) E rfl rfl rfl (S.get pZ) rfl rfl) ?_; clear E a; intro a E
    refine zAg rfl (zAq E S rfl rfl rfl rfl (by simp [Value.oneCell']) rfl pZ (by simp) ?_); clear E S a; intro a w E S; simp only [List.take_succ_cons, List.take_zero, List.drop_succ_cons, List.drop_zero, List.cons_append, List.nil_append, List.append_nil, List.length_cons, List.length_nil, Nat.zero_add, Nat.add_zero] at S
    refine wpList_nil ?_
    refine zAb hK ?_; clear hK K
    refine wp_ret ?_
    refine zFu E rfl rfl (S.get pZ) rfl ?_
    have S := S.tail2
    first
     | (rw [bare1 k1]; exact ⟨_, rfl, _, _, _, rfl, ⟨hR.pr, hR.kr, hR.dr⟩, S.tr⟩)
     | (rw [bare2 k2]; exact ⟨_, rfl, _, _, _, rfl, ⟨Rd.nil _ _, hR.kr, hR.dr⟩, S.tr⟩)
     | (rw [bare3 k3]; exact ⟨_, rfl, _, _, _, rfl, ⟨hR.pr, Rd.nil _ _, hR.dr⟩, S.tr⟩)
     | (rw [bare4 k4]; exact ⟨_, rfl, _, _, _, rfl, ⟨hR.pr, Rd.nil _ _, hR.dr⟩, S.tr⟩)
     | (rw [bare5 k5]; exact ⟨_, rfl, _, _, _, rfl, ⟨hR.pr, hR.kr, Rd.nil _ _⟩, S.tr⟩)
     | (rw [bare6 k1 k2 k3 k4 k5]; exact ⟨_, rfl, _, _, _, rfl, ⟨hR.pr, hR.kr, hR.dr⟩, S.tr⟩)
   ·replace hb := Nrm.nrm hb
    have k3 := hb
    refine wp_seq_k ?_; intro K hK
    refine zAa ?_
    iterate 2 (refine zd E ?_; clear E a; intro a E)
    refine wpList_nil ?_
    refine zAb hK ?_; clear hK K
    refine zAs E rfl (fun hb => ?_) (fun hb => ?_)
    ·replace hb := Nrm.nrm hb
     have k4 := hb
     refine zAa ?_
     refine zp E (by first | exact zAc (q := 8) E rfl rfl rfl | exact zAd (q := 8) E rfl rfl rfl) ?_; clear E a; intro a E
     refine zAg rfl (zAv E S rfl rfl rfl rfl rfl rfl pZ (by first | exact Nat.le_of_ble_eq_true rfl | (simp; done) | (simp; omega)) ?_); clear E S a; intro a w E S; try dsimp only [List.set] at S
     refine zp E (by first | exact zAc (q := 11) E rfl rfl rfl | exact zAd (q := 11) E rfl rfl rfl) ?_; clear E a; intro a E
     refine zAg rfl (zAv E S rfl rfl rfl rfl rfl rfl pZ (by first | exact Nat.le_of_ble_eq_true rfl | (simp; done) | (simp; omega)) ?_); clear E S a; intro a w E S; try dsimp only [List.set] at S
     refine wpList_nil ?_
     refine zAr ?_
     refine zAb hK ?_; clear hK K
     refine wp_seq_k ?_; intro K hK
     refine zAa ?_
     refine zp E (zAz (vs := [_, _, _, _, _, _, _, _, _, _, _, _, _]) E rfl rfl rfl (S.get pZ) rfl rfl) ?_; clear E a; intro a E
     refine zAg rfl (zAq E S rfl rfl rfl rfl (by simp [Value.oneCell']) rfl pZ (by simp) ?_); clear E S a; intro a w E S; simp only [List.take_succ_cons, List.take_zero, List.drop_succ_cons, List.drop_zero, List.cons_append, List.nil_append, List.append_nil, List.length_cons, List.length_nil, Nat.zero_add, Nat.add_zero] at S
     refine wpList_nil ?_
     refine zAb hK ?_; clear hK K
     refine wp_ret ?_
     refine zFu E rfl rfl (S.get pZ) rfl ?_
     have S := S.tail2
     first
      | (rw [bare1 k1]; exact ⟨_, rfl, _, _, _, rfl, ⟨hR.pr, hR.kr, hR.dr⟩, S.tr⟩)
      | (rw [bare2 k2]; exact ⟨_, rfl, _, _, _, rfl, ⟨Rd.nil _ _, hR.kr, hR.dr⟩, S.tr⟩)
      | (rw [bare3 k3]; exact ⟨_, rfl, _, _, _, rfl, ⟨hR.pr, Rd.nil _ _, hR.dr⟩, S.tr⟩)
      | (rw [bare4 k4]; exact ⟨_, rfl, _, _, _, rfl, ⟨hR.pr, Rd.nil _ _, hR.dr⟩, S.tr⟩)
      | (rw [bare5 k5]; exact ⟨_, rfl, _, _, _, rfl, ⟨hR.pr, hR.kr, Rd.nil _ _⟩, S.tr⟩)
      | (rw [bare6 k1 k2 k3 k4 k5]; exact ⟨_, rfl, _, _, _, rfl, ⟨hR.pr, hR.kr, hR.dr⟩, S.tr⟩)
    ·replace hb := Nrm.nrm hb
     have k4 := hb
     refine wp_seq_k ?_; intro K hK
     refine zAa ?_
     iterate 2 (refine zd E ?_; clear E a; intro a E)
     refine wpList_nil ?_
     refine zAb hK ?_; clear hK K
     refine zAs E rfl (fun hb => ?_) (fun hb => ?_)
     ·replace hb := Nrm.nrm hb
      have k5 := hb
      refine zAa ?_
      refine zp E (by first | exact zAc (q := 8) E rfl rfl rfl | exact zAd (q := 8) E rfl rfl rfl) ?_; clear E a; intro a E
      refine zAg rfl (zAv E S rfl rfl rfl rfl rfl rfl pZ (by first | exact Nat.le_of_ble_eq_true rfl | (simp; done) | (simp; omega)) ?_); clear E S a; intro a w E S; try dsimp only [List.set] at S
      refine zp E (by first | exact zAc (q := 9) E rfl rfl rfl | exact zAd (q := 9) E rfl rfl rfl) ?_; clear E a; intro a E
      refine zAg rfl (zAv E S rfl rfl rfl rfl rfl rfl pZ (by first | exact Nat.le_of_ble_eq_true rfl | (simp; done) | (simp; omega)) ?_); clear E S a; intro a w E S; try dsimp only [List.set] at S
      refine zp E (by first | exact zAc (q := 12) E rfl rfl rfl | exact zAd (q := 12) E rfl rfl rfl) ?_; clear E a; intro a E
      refine zAg rfl (zAv E S rfl rfl rfl rfl rfl rfl pZ (by first | exact Nat.le_of_ble_eq_true rfl | (simp; done) | (simp; omega)) ?_); clear E S a; intro a w E S; try dsimp only [List.set] at S
      refine wpList_nil ?_
      refine zAr ?_
      refine zAb hK ?_; clear hK K
      refine wp_seq_k ?_; intro K hK
      refine zAa ?_
      refine zp E (zAz (vs := [_, _, _, _, _, _, _, _, _, _, _, _, _]) E rfl rfl rfl (S.get pZ) rfl rfl) ?_; clear E a; intro a E
      refine zAg rfl (zAq E S rfl rfl rfl rfl (by simp [Value.oneCell']) rfl pZ (by simp) ?_); clear E S a; intro a w E S; simp only [List.take_succ_cons, List.take_zero, List.drop_succ_cons, List.drop_zero, List.cons_append, List.nil_append, List.append_nil, List.length_cons, List.length_nil, Nat.zero_add, Nat.add_zero] at S
      refine wpList_nil ?_
      refine zAb hK ?_; clear hK K
      refine wp_ret ?_
      refine zFu E rfl rfl (S.get pZ) rfl ?_
      have S := S.tail2
      first
       | (rw [bare1 k1]; exact ⟨_, rfl, _, _, _, rfl, ⟨hR.pr, hR.kr, hR.dr⟩, S.tr⟩)
       | (rw [bare2 k2]; exact ⟨_, rfl, _, _, _, rfl, ⟨Rd.nil _ _, hR.kr, hR.dr⟩, S.tr⟩)
       | (rw [bare3 k3]; exact ⟨_, rfl, _, _, _, rfl, ⟨hR.pr, Rd.nil _ _, hR.dr⟩, S.tr⟩)
       | (rw [bare4 k4]; exact ⟨_, rfl, _, _, _, rfl, ⟨hR.pr, Rd.nil _ _, hR.dr⟩, S.tr⟩)
       | (rw [bare5 k5]; exact ⟨_, rfl, _, _, _, rfl, ⟨hR.pr, hR.kr, Rd.nil _ _⟩, S.tr⟩)
       | (rw [bare6 k1 k2 k3 k4 k5]; exact ⟨_, rfl, _, _, _, rfl, ⟨hR.pr, hR.kr, hR.dr⟩, S.tr⟩)
     ·replace hb := Nrm.nrm hb
      have k5 := hb
      refine zAa ?_
      refine zp E (by first | exact zAc (q := 10) E rfl rfl rfl | exact zAd (q := 10) E rfl rfl rfl) ?_; clear E a; intro a E
      refine zAg rfl (zAv E S rfl rfl rfl rfl rfl rfl pZ (by first | exact Nat.le_of_ble_eq_true rfl | (simp; done) | (simp; omega)) ?_); clear E S a; intro a w E S; try dsimp only [List.set] at S
      refine wpList_nil ?_
      refine zAr ?_
      refine zAb hK ?_; clear hK K
      refine wp_seq_k ?_; intro K hK
      refine zAa ?_
      refine zp E (zAz (vs := [_, _, _, _, _, _, _, _, _, _, _, _, _]) E rfl rfl rfl (S.get pZ) rfl rfl) ?_; clear E a; intro a E
      refine zAg rfl (zAq E S rfl rfl rfl rfl (by simp [Value.oneCell']) rfl pZ (by simp) ?_); clear E S a; intro a w E S; simp only [List.take_succ_cons, List.take_zero, List.drop_succ_cons, List.drop_zero, List.cons_append, List.nil_append, List.append_nil, List.length_cons, List.length_nil, Nat.zero_add, Nat.add_zero] at S
      refine wpList_nil ?_
      refine zAb hK ?_; clear hK K
      refine wp_ret ?_
      refine zFu E rfl rfl (S.get pZ) rfl ?_
      have S := S.tail2
      first
       | (rw [bare1 k1]; exact ⟨_, rfl, _, _, _, rfl, ⟨hR.pr, hR.kr, hR.dr⟩, S.tr⟩)
       | (rw [bare2 k2]; exact ⟨_, rfl, _, _, _, rfl, ⟨Rd.nil _ _, hR.kr, hR.dr⟩, S.tr⟩)
       | (rw [bare3 k3]; exact ⟨_, rfl, _, _, _, rfl, ⟨hR.pr, Rd.nil _ _, hR.dr⟩, S.tr⟩)
       | (rw [bare4 k4]; exact ⟨_, rfl, _, _, _, rfl, ⟨hR.pr, Rd.nil _ _, hR.dr⟩, S.tr⟩)
       | (rw [bare5 k5]; exact ⟨_, rfl, _, _, _, rfl, ⟨hR.pr, hR.kr, Rd.nil _ _⟩, S.tr⟩)
       | (rw [bare6 k1 k2 k3 k4 k5]; exact ⟨_, rfl, _, _, _, rfl, ⟨hR.pr, hR.kr, hR.dr⟩, S.tr⟩)
abbrev fnv (f : FuncId) : Value := .func (.func f) #[] #[]
def rowC (f g h : FuncId) : List Value := [fnv f, fnv g, fnv h]
def mayF (k : Int) : FuncId := if k = 1 then 47 else if k = 2 then 96 else if k = 3 then 55 else if k = 4 then 61 else if k = 5 then 64 else 99
def layF (k : Int) : FuncId := if k = 1 then 50 else if k = 2 then 94 else if k = 3 then 57 else if k = 4 then 62 else if k = 5 then 65 else 100
def takF (k : Int) : FuncId := if k = 1 then 52 else if k = 2 then 95 else if k = 3 then 59 else if k = 4 then 63 else if k = 5 then 67 else 101
def rowV (k : Int) : Value := .agg (rowC (mayF k) (layF k) (takF k)).toArray
def zHg : Array MapEntry := #[⟨.int .i64 1, rowV 1, 0⟩, ⟨.int .i64 2, rowV 2, 1⟩, ⟨.int .i64 3, rowV 3, 2⟩, ⟨.int .i64 4, rowV 4, 3⟩, ⟨.int .i64 5, rowV 5, 4⟩, ⟨.int .i64 6, rowV 6, 5⟩, ⟨.int .i64 7, rowV 7, 6⟩]
def inK (k : Int) : Prop := 1 ≤ k ∧ k ≤ 7
theorem zEm {k : Int} (h : inK k) : k = 1 ∨ k = 2 ∨ k = 3 ∨ k = 4 ∨ k = 5 ∨ k = 6 ∨ k = 7 := by unfold inK at h; omega
theorem row_is {k : Int} (h : inK k) : ∃ i, Instr.findNow (.int .i64) (.int .i64 k) zHg.toList 0 = some (some (i, rowV k)) := by
 rcases zEm h with rfl | rfl | rfl | rfl | rfl | rfl | rfl <;> exact ⟨_, rfl⟩
theorem row_not {k : Int} (h : ¬ inK k) : Instr.findNow (.int .i64) (.int .i64 k) zHg.toList 0 = some none := by
 have hk : ∀ j : Int, inK j → (k == j) = false := fun j hj => by
  rw [beq_eq_false_iff_ne]; intro e; exact h (e ▸ hj)
 have h1 := hk 1 (by unfold inK; omega)
 have h2 := hk 2 (by unfold inK; omega)
 have h3 := hk 3 (by unfold inK; omega)
 have h4 := hk 4 (by unfold inK; omega)
 have h5 := hk 5 (by unfold inK; omega)
 have h6 := hk 6 (by unfold inK; omega)
 have h7 := hk 7 (by unfold inK; omega)
 simp [zHg, Instr.findNow, Instr.sameNow, h1, h2, h3, h4, h5, h6, h7]
theorem many_ret (As : List zAl) (w0 : World) (H : Hp w0 As) : Ret Tryz.prog 69 #[] w0 fun u w' => u = rowV 6 ∧ Trs w0 w' As As := by
 have S := St.begin H
 refine enter0 2 Tryz.func69 rfl rfl ?_; intro a E
 refine wp_seq_k ?_; intro K hK
 refine zAa ?_
 refine zAg rfl (zBf E S rfl rfl dZ rfl rfl rfl ?_); clear E S a; intro a w b0 E S
 refine wpList_nil ?_
 refine zAb hK ?_; clear hK K
 refine wp_seq_k ?_; intro K hK
 refine zAa ?_
 refine zp E (zBp (cells := [_, _, _]) E rfl rfl rfl) ?_; clear E a; intro a E
 refine zAg rfl (zAq E S rfl rfl rfl rfl (by simp [Value.oneCell']) rfl pZ (by simp) ?_); clear E S a; intro a w E S; simp only [List.take_succ_cons, List.take_zero, List.drop_succ_cons, List.drop_zero, List.cons_append, List.nil_append, List.append_nil, List.length_cons, List.length_nil, Nat.zero_add, Nat.add_zero] at S
 refine wpList_nil ?_
 refine zAb hK ?_; clear hK K
 refine wp_ret ?_
 refine zFu E rfl rfl (S.get pZ) rfl ?_
 exact ⟨_, rfl, rfl, S.tail.tr⟩
theorem beginRow_ret (As : List zAl) (w0 : World) (H : Hp w0 As) : Ret Tryz.prog 54 #[] w0 fun u w' => u = rowV 2 ∧ Trs w0 w' As As := by
 have S := St.begin H
 refine enter0 6 Tryz.func54 rfl rfl ?_; intro a E
 refine wp_seq_k ?_; intro K hK
 refine zAa ?_
 refine zAg rfl (zBf E S rfl rfl dZ rfl rfl rfl ?_); clear E S a; intro a w b0 E S
 refine wpList_nil ?_
 refine zAb hK ?_; clear hK K
 refine wp_seq_k ?_; intro K hK
 refine zAa ?_
 refine zd E ?_; clear E a; intro a E
 refine wpList_nil ?_
 refine zAb hK ?_; clear hK K
 refine wp_seq_k ?_; intro K hK
 refine zAa ?_
 refine zd E ?_; clear E a; intro a E
 refine wpList_nil ?_
 refine zAb hK ?_; clear hK K
 refine wp_seq_k ?_; intro K hK
 refine zAa ?_
 iterate 2 (refine zd E ?_; clear E a; intro a E)
 refine zp E (zBp (cells := [_, _, _]) E rfl rfl rfl) ?_; clear E a; intro a E
 refine zAg rfl (zAq E S rfl rfl rfl rfl (by simp [Value.oneCell']) rfl pZ (by simp) ?_); clear E S a; intro a w E S; simp only [List.take_succ_cons, List.take_zero, List.drop_succ_cons, List.drop_zero, List.cons_append, List.nil_append, List.append_nil, List.length_cons, List.length_nil, Nat.zero_add, Nat.add_zero] at S
 refine wpList_nil ?_
 refine zAb hK ?_; clear hK K
 refine wp_ret ?_
 refine zFu E rfl rfl (S.get pZ) rfl ?_
 exact ⟨_, rfl, rfl, S.tail.tr⟩
theorem zJd (As : List zAl) (w0 : World) (H : Hp w0 As) : Ret Tryz.prog 25 #[] w0 fun u w' => ∃ g, u = .map (some g) ∧ Trs w0 w' As ([(g, .map zHg 7)] :: As) := by
 have S := St.begin H
 refine enter0 10 Tryz.func25 rfl rfl ?_; intro a E
 refine wp_seq_k ?_; intro K hK
 refine zAa ?_
 refine zd E ?_; clear E a; intro a E
 refine wpList_nil ?_
 refine zAb hK ?_; clear hK K
 refine wp_seq_k ?_; intro K hK
 refine zAa ?_
 refine zAg rfl (wp_makeMap E S rfl rfl dZ ?_); clear E S a; intro a w b1 E S
 refine zp E (zBp (cells := [_, _, _]) E rfl rfl rfl) ?_; clear E a; intro a E
 refine zAg rfl (zFf E S (.inr rfl) rfl rfl rfl rfl rfl rfl pZ rfl ?_); clear E S a; intro a w E S
 refine zAh E rfl rfl dZ rfl Tryz.func54 rfl yZ rfl (beginRow_ret _ _ S.hp) ?_
 rintro v3 w ⟨rfl, hT⟩; clear E a; intro a E
 have S := S.all hT
 refine zAg rfl (zFf E S (.inr rfl) rfl rfl rfl rfl rfl rfl pZ rfl ?_); clear E S a; intro a w E S
 refine zp E (zBp (cells := [_, _, _]) E rfl rfl rfl) ?_; clear E a; intro a E
 refine zAg rfl (zFf E S (.inr rfl) rfl rfl rfl rfl rfl rfl pZ rfl ?_); clear E S a; intro a w E S
 refine zp E (zBp (cells := [_, _, _]) E rfl rfl rfl) ?_; clear E a; intro a E
 refine zAg rfl (zFf E S (.inr rfl) rfl rfl rfl rfl rfl rfl pZ rfl ?_); clear E S a; intro a w E S
 refine zp E (zBp (cells := [_, _, _]) E rfl rfl rfl) ?_; clear E a; intro a E
 refine zAg rfl (zFf E S (.inr rfl) rfl rfl rfl rfl rfl rfl pZ rfl ?_); clear E S a; intro a w E S
 refine zAh E rfl rfl dZ rfl Tryz.func69 rfl yZ rfl (many_ret _ _ S.hp) ?_
 rintro v7 w ⟨rfl, hT⟩; clear E a; intro a E
 have S := S.all hT
 refine zAg rfl (zFf E S (.inr rfl) rfl rfl rfl rfl rfl rfl pZ rfl ?_); clear E S a; intro a w E S
 refine zAh E rfl rfl dZ rfl Tryz.func69 rfl yZ rfl (many_ret _ _ S.hp) ?_
 rintro v8 w ⟨rfl, hT⟩; clear E a; intro a E
 have S := S.all hT
 refine zAg rfl (zFf E S (.inr rfl) rfl rfl rfl rfl rfl rfl pZ rfl ?_); clear E S a; intro a w E S
 iterate 2 (refine zd E ?_; clear E a; intro a E)
 refine wpList_nil ?_
 refine zAb hK ?_; clear hK K
 refine wp_ret ?_
 refine ret1 E rfl rfl ?_
 exact ⟨_, rfl, b1, rfl, S.tr⟩
noncomputable def mayK (k : Int) (r : Rec) : Bool := if k = 1 then may1 r else if k = 2 then begB r else if k = 3 then may3 r else if k = 4 then may4 r else if k = 5 then may5 r else may6 r
noncomputable def ckB (r : Rec) : Bool := @decide (inK r.kind) (Classical.propDecidable _) && (mayK r.kind r && zCa (zDb r))
noncomputable def ckE (r : Rec) : Int := if ckB r = true then 0 else 200
theorem mayF_fn {k : Int} (h : inK k) : ∃ fn : Func, Tryz.prog.funcs[mayF k]? = some fn ∧ fn.body.isSome = true ∧ (fn.name == "runtime.NumGoroutine") = false := by
 rcases zEm h with rfl | rfl | rfl | rfl | rfl | rfl | rfl
 ·exact ⟨_, Tryz.func47, rfl, by kernel_rfl⟩
 ·exact ⟨_, Tryz.func96, rfl, by kernel_rfl⟩
 ·exact ⟨_, Tryz.func55, rfl, by kernel_rfl⟩
 ·exact ⟨_, Tryz.func61, rfl, by kernel_rfl⟩
 ·exact ⟨_, Tryz.func64, rfl, by kernel_rfl⟩
 ·exact ⟨_, Tryz.func99, rfl, by kernel_rfl⟩
 ·exact ⟨_, Tryz.func99, rfl, by kernel_rfl⟩
theorem mayK_ret {C : zAl} {r : Rec} {pv kv dv : Value} (hR : RecR C r pv kv dv) (hs : Sml r) {As : List zAl} (hC : C ∈ As) (w0 : World) (H : Hp w0 As) {k : Int} (h : inK k) :
  Ret Tryz.prog (mayF k) #[.agg (r.cells pv kv dv).toArray] w0 fun u w' => u = .bool (mayK k r) ∧ Trs w0 w' As As := by
 rcases zEm h with rfl | rfl | rfl | rfl | rfl | rfl | rfl
 ·exact may1_ret hR hs hC w0 H
 ·exact begin_ret hR hs hC w0 H
 ·exact may3_ret hR hs hC w0 H
 ·exact may4_ret hR hs hC w0 H
 ·exact may5_ret hR hs hC w0 H
 ·exact may6_ret hR hs hC w0 H
 ·exact may6_ret hR hs hC w0 H
theorem zJx {C : zAl} {r : Rec} {pv kv dv : Value} (hR : RecR C r pv kv dv) (hs : Sml r) {As : List zAl} (hC : C ∈ As) (w0 : World) (H : Hp w0 As) :
  Ret Tryz.prog 11 #[.agg (r.cells pv kv dv).toArray] w0 fun u w' => u = .int .i64 (ckE r) ∧ Trs w0 w' As As := by
 have S := St.begin H
 obtain ⟨ad1, c1, rfl⟩ := hR.pr.slice
 obtain ⟨ad2, c2, rfl⟩ := hR.kr.slice
 obtain ⟨ad3, c3, rfl⟩ := hR.dr.slice
 refine zCd 27 Tryz.func11 rfl rfl dZ ?_; intro a E
 refine wp_seq_k ?_; intro K hK
 refine zAa ?_
 refine zAg rfl (zBx E S rfl rfl dZ rfl rfl ?_); clear E S a; intro a w b1 E S
 refine zd E ?_; clear E a; intro a E
 refine wpList_nil ?_
 refine zAb hK ?_; clear hK K
 refine wp_seq_k ?_; intro K hK
 refine zDd (fun (a : Act) (w' : World) => ∃ z f1 f2 f3 b3, (z = true ↔ inK r.kind) ∧ (inK r.kind → f1 = fnv (mayF r.kind)) ∧ St w0 As w' ([(b3, cel [f1, f2, f3] 59)] :: [(b1, cel (r.cells (.slice ad1 r.props.length c1) (.slice ad2 r.keep.length c2) (.slice ad3 r.data.length c3)) 26)] :: As) ∧ Fr a 27 [(1, ptr b1), (2, .int .i64 0), (3, ptr b3), (4, .bool z)]) ?_ ?_
 ·skip
  refine zCn S (.cons (1, 0) (.cons (2, 0) (.fork 0 (.fork 3 (.ofL [(4, 0), (5, 0), (6, 2), (7, 1), (8, 3), (9, 2)]) 7 (.ofL [(3, 1), (4, 0), (5, 0), (6, 2), (8, 3), (9, 2)])) 7 (.ofL [(0, 1), (3, 1), (4, 0), (5, 0), (6, 2), (8, 3), (9, 2)])))) [[(b1, cel (r.cells (.slice ad1 r.props.length c1) (.slice ad2 r.keep.length c2) (.slice ad3 r.data.length c3)) 26)]] (fun h => h.sub (by first | (simp; done) | (simp +contextual; done) | (simp [*]; done))) yZ yZ ?_
  clear S; intro w S
  refine zm E rfl (fun w h => by first | exact zAc (q := 0) E rfl rfl rfl | exact zAd (q := 0) E rfl rfl rfl) ?_; clear E a; intro a E
  refine zmd E ?_; clear E a; intro a E
  refine ⟨?_, ?_⟩
  ·skip
   refine zBs E rfl rfl rfl dZ rfl Tryz.func25 rfl yZ rfl (zJd _ _ S.hp) ?_
   rintro v6 w ⟨g, rfl, hT⟩; clear E a; intro a E
   have S := S.all hT
   refine ⟨S.stab.sub (by first | (simp; done) | (simp +contextual; done) | (simp [*]; done)), ?_⟩
   refine ⟨?_, ?_⟩
   ·skip
    rcases Classical.em (inK r.kind) with hk | hk
    ·skip
     obtain ⟨ix, hrow⟩ := row_is hk
     refine zCu rfl rfl (zGe E (zFn (v := .agg [fnv (mayF r.kind), fnv (layF r.kind), fnv (takF r.kind)].toArray) E rfl rfl rfl rfl rfl (S.get pZ) hrow) rfl dZ ?_); clear E a; intro a E; refine ⟨S.stab.sub (by first | (simp; done) | (simp +contextual; done) | (simp [*]; done)), ?_⟩
     iterate 2 (refine zmd E ?_; clear E a; intro a E)
     refine zCg E rfl rfl rfl dZ (fun w => zDs E rfl rfl rfl) ?_; clear E a; intro a E
     refine zCu rfl rfl (zBf E S rfl rfl dZ rfl rfl rfl ?_); clear E S a; intro a w b3 E S; refine ⟨S.stab.sub (by first | (simp; done) | (simp +contextual; done) | (simp [*]; done)), ?_⟩
     refine zCb rfl rfl (zAq E S rfl rfl rfl rfl (by simp [Value.oneCell']) rfl pZ (by simp) ?_); clear E S a; intro a w E S; simp only [List.take_succ_cons, List.take_zero, List.drop_succ_cons, List.drop_zero, List.cons_append, List.nil_append, List.append_nil, List.length_cons, List.length_nil, Nat.zero_add, Nat.add_zero] at S
     refine zCg E rfl rfl rfl dZ (fun w => zCl E rfl rfl) ?_; clear E a; intro a E
     refine zBi ?_
     refine zAk ?_
     first
      | exact ⟨_, _, _, _, _, by simp [hk], fun _ => rfl, ((S.front1 (A := [(g, .map zHg 7)]) pZ).tail).front2 pZ pZ, E.keep (kE4 rfl rfl rfl rfl)⟩
      | exact ⟨_, _, _, _, _, by simp [hk], fun q => absurd q hk, ((S.front1 (A := [(g, .map zHg 7)]) pZ).tail).front2 pZ pZ, E.keep (kE4 rfl rfl rfl rfl)⟩
    ·skip
     refine zCu rfl rfl (zGe E (zEt E rfl rfl rfl rfl rfl rfl rfl (S.get pZ) (row_not hk)) rfl dZ ?_); clear E a; intro a E; refine ⟨S.stab.sub (by first | (simp; done) | (simp +contextual; done) | (simp [*]; done)), ?_⟩
     iterate 2 (refine zmd E ?_; clear E a; intro a E)
     refine zCg E rfl rfl rfl dZ (fun w => zDs E rfl rfl rfl) ?_; clear E a; intro a E
     refine zCu rfl rfl (zBf E S rfl rfl dZ rfl rfl rfl ?_); clear E S a; intro a w b3 E S; refine ⟨S.stab.sub (by first | (simp; done) | (simp +contextual; done) | (simp [*]; done)), ?_⟩
     refine zCb rfl rfl (zAq E S rfl rfl rfl rfl (by simp [Value.oneCell']) rfl pZ (by simp) ?_); clear E S a; intro a w E S; simp only [List.take_succ_cons, List.take_zero, List.drop_succ_cons, List.drop_zero, List.cons_append, List.nil_append, List.append_nil, List.length_cons, List.length_nil, Nat.zero_add, Nat.add_zero] at S
     refine zCg E rfl rfl rfl dZ (fun w => zCl E rfl rfl) ?_; clear E a; intro a E
     refine zBi ?_
     refine zAk ?_
     first
      | exact ⟨_, _, _, _, _, by simp [hk], fun _ => rfl, ((S.front1 (A := [(g, .map zHg 7)]) pZ).tail).front2 pZ pZ, E.keep (kE4 rfl rfl rfl rfl)⟩
      | exact ⟨_, _, _, _, _, by simp [hk], fun q => absurd q hk, ((S.front1 (A := [(g, .map zHg 7)]) pZ).tail).front2 pZ pZ, E.keep (kE4 rfl rfl rfl rfl)⟩
   ·skip
    refine zCu rfl rfl (zBf E S rfl rfl dZ rfl rfl rfl ?_); clear E S a; intro a w b3 E S; refine ⟨S.stab.sub (by first | (simp; done) | (simp +contextual; done) | (simp [*]; done)), ?_⟩
    rcases Classical.em (inK r.kind) with hk | hk
    ·skip
     obtain ⟨ix, hrow⟩ := row_is hk
     refine zCu rfl rfl (zGe E (zFn (v := .agg [fnv (mayF r.kind), fnv (layF r.kind), fnv (takF r.kind)].toArray) E rfl rfl rfl rfl rfl (S.get pZ) hrow) rfl dZ ?_); clear E a; intro a E; refine ⟨S.stab.sub (by first | (simp; done) | (simp +contextual; done) | (simp [*]; done)), ?_⟩
     iterate 2 (refine zmd E ?_; clear E a; intro a E)
     refine zCg E rfl rfl rfl dZ (fun w => zDs E rfl rfl rfl) ?_; clear E a; intro a E
     refine zCb rfl rfl (zAq E S rfl rfl rfl rfl (by simp [Value.oneCell']) rfl pZ (by simp) ?_); clear E S a; intro a w E S; simp only [List.take_succ_cons, List.take_zero, List.drop_succ_cons, List.drop_zero, List.cons_append, List.nil_append, List.append_nil, List.length_cons, List.length_nil, Nat.zero_add, Nat.add_zero] at S
     refine zCg E rfl rfl rfl dZ (fun w => zCl E rfl rfl) ?_; clear E a; intro a E
     refine zBi ?_
     refine zAk ?_
     first
      | exact ⟨_, _, _, _, _, by simp [hk], fun _ => rfl, ((S.front1 (A := [(g, .map zHg 7)]) pZ).tail).front2 pZ pZ, E.keep (kE4 rfl rfl rfl rfl)⟩
      | exact ⟨_, _, _, _, _, by simp [hk], fun q => absurd q hk, ((S.front1 (A := [(g, .map zHg 7)]) pZ).tail).front2 pZ pZ, E.keep (kE4 rfl rfl rfl rfl)⟩
    ·skip
     refine zCu rfl rfl (zGe E (zEt E rfl rfl rfl rfl rfl rfl rfl (S.get pZ) (row_not hk)) rfl dZ ?_); clear E a; intro a E; refine ⟨S.stab.sub (by first | (simp; done) | (simp +contextual; done) | (simp [*]; done)), ?_⟩
     iterate 2 (refine zmd E ?_; clear E a; intro a E)
     refine zCg E rfl rfl rfl dZ (fun w => zDs E rfl rfl rfl) ?_; clear E a; intro a E
     refine zCb rfl rfl (zAq E S rfl rfl rfl rfl (by simp [Value.oneCell']) rfl pZ (by simp) ?_); clear E S a; intro a w E S; simp only [List.take_succ_cons, List.take_zero, List.drop_succ_cons, List.drop_zero, List.cons_append, List.nil_append, List.append_nil, List.length_cons, List.length_nil, Nat.zero_add, Nat.add_zero] at S
     refine zCg E rfl rfl rfl dZ (fun w => zCl E rfl rfl) ?_; clear E a; intro a E
     refine zBi ?_
     refine zAk ?_
     first
      | exact ⟨_, _, _, _, _, by simp [hk], fun _ => rfl, ((S.front1 (A := [(g, .map zHg 7)]) pZ).tail).front2 pZ pZ, E.keep (kE4 rfl rfl rfl rfl)⟩
      | exact ⟨_, _, _, _, _, by simp [hk], fun q => absurd q hk, ((S.front1 (A := [(g, .map zHg 7)]) pZ).tail).front2 pZ pZ, E.keep (kE4 rfl rfl rfl rfl)⟩
  ·skip
   refine zCu rfl rfl (zBf E S rfl rfl dZ rfl rfl rfl ?_); clear E S a; intro a w b3 E S; refine ⟨S.stab.sub (by first | (simp; done) | (simp +contextual; done) | (simp [*]; done)), ?_⟩
   refine zBs E rfl rfl rfl dZ rfl Tryz.func25 rfl yZ rfl (zJd _ _ S.hp) ?_
   rintro v6 w ⟨g, rfl, hT⟩; clear E a; intro a E
   have S := S.all hT
   refine ⟨S.stab.sub (by first | (simp; done) | (simp +contextual; done) | (simp [*]; done)), ?_⟩
   rcases Classical.em (inK r.kind) with hk | hk
   ·skip
    obtain ⟨ix, hrow⟩ := row_is hk
    refine zCu rfl rfl (zGe E (zFn (v := .agg [fnv (mayF r.kind), fnv (layF r.kind), fnv (takF r.kind)].toArray) E rfl rfl rfl rfl rfl (S.get pZ) hrow) rfl dZ ?_); clear E a; intro a E; refine ⟨S.stab.sub (by first | (simp; done) | (simp +contextual; done) | (simp [*]; done)), ?_⟩
    iterate 2 (refine zmd E ?_; clear E a; intro a E)
    refine zCg E rfl rfl rfl dZ (fun w => zDs E rfl rfl rfl) ?_; clear E a; intro a E
    refine zCb rfl rfl (zAq E S rfl rfl rfl rfl (by simp [Value.oneCell']) rfl pZ (by simp) ?_); clear E S a; intro a w E S; simp only [List.take_succ_cons, List.take_zero, List.drop_succ_cons, List.drop_zero, List.cons_append, List.nil_append, List.append_nil, List.length_cons, List.length_nil, Nat.zero_add, Nat.add_zero] at S
    refine zCg E rfl rfl rfl dZ (fun w => zCl E rfl rfl) ?_; clear E a; intro a E
    refine zBi ?_
    refine zAk ?_
    first
     | exact ⟨_, _, _, _, _, by simp [hk], fun _ => rfl, ((S.front1 (A := [(g, .map zHg 7)]) pZ).tail).front2 pZ pZ, E.keep (kE4 rfl rfl rfl rfl)⟩
     | exact ⟨_, _, _, _, _, by simp [hk], fun q => absurd q hk, ((S.front1 (A := [(g, .map zHg 7)]) pZ).tail).front2 pZ pZ, E.keep (kE4 rfl rfl rfl rfl)⟩
   ·skip
    refine zCu rfl rfl (zGe E (zEt E rfl rfl rfl rfl rfl rfl rfl (S.get pZ) (row_not hk)) rfl dZ ?_); clear E a; intro a E; refine ⟨S.stab.sub (by first | (simp; done) | (simp +contextual; done) | (simp [*]; done)), ?_⟩
    iterate 2 (refine zmd E ?_; clear E a; intro a E)
    refine zCg E rfl rfl rfl dZ (fun w => zDs E rfl rfl rfl) ?_; clear E a; intro a E
    refine zCb rfl rfl (zAq E S rfl rfl rfl rfl (by simp [Value.oneCell']) rfl pZ (by simp) ?_); clear E S a; intro a w E S; simp only [List.take_succ_cons, List.take_zero, List.drop_succ_cons, List.drop_zero, List.cons_append, List.nil_append, List.append_nil, List.length_cons, List.length_nil, Nat.zero_add, Nat.add_zero] at S
    refine zCg E rfl rfl rfl dZ (fun w => zCl E rfl rfl) ?_; clear E a; intro a E
    refine zBi ?_
    refine zAk ?_
    first
     | exact ⟨_, _, _, _, _, by simp [hk], fun _ => rfl, ((S.front1 (A := [(g, .map zHg 7)]) pZ).tail).front2 pZ pZ, E.keep (kE4 rfl rfl rfl rfl)⟩
     | exact ⟨_, _, _, _, _, by simp [hk], fun q => absurd q hk, ((S.front1 (A := [(g, .map zHg 7)]) pZ).tail).front2 pZ pZ, E.keep (kE4 rfl rfl rfl rfl)⟩
 ·clear E S a; intro a w J; obtain ⟨z, f1, f2, f3, b3, hz, hf, S, E⟩ := J
  refine zAb hK ?_; clear hK K
  iterate 2 (refine wp_seq_k ?_; intro K hK)
  refine zAa ?_
  iterate 3 (refine zd E ?_; clear E a; intro a E)
  refine zAj E (t := 14) rfl (fun hb14 => ?_) (fun hb14 => ?_)
  ·have hb14n := hb14; replace hb14n := Nrm.nrm hb14n
   iterate 5 (refine zn E hb14 ?_; clear E a; intro a E)
   refine zp E (zAf E rfl rfl hb14 rfl) ?_; clear E a; intro a E
   refine zd E ?_; clear E a; intro a E
   iterate 4 (refine zn E rfl ?_; clear E a; intro a E)
   refine zp E (zAf E rfl rfl rfl rfl) ?_; clear E a; intro a E
   refine wpList_nil ?_
   refine zAb hK ?_; clear hK K
   refine zBo E rfl rfl ?_
   refine wp_seq_k ?_; intro K hK
   refine zAa ?_
   refine zd E ?_; clear E a; intro a E
   refine wpList_nil ?_
   refine zAb hK ?_; clear hK K
   refine wp_ret ?_
   refine zAn ?_; clear hK K
   refine ret1 E rfl rfl ?_
   refine ⟨_, rfl, ?_, S.tail2.tr⟩
   clear S E H hR hs
   simp_all [ckE, ckB]
  ·have hb14n := hb14; replace hb14n := Nrm.nrm hb14n
   have hk := hz.1 (by simpa using hb14); obtain rfl := hf hk; obtain ⟨fn, q1, q2, q3⟩ := mayF_fn hk
   refine zy E hb14 (by first | exact zAc (q := 0) E rfl rfl rfl | exact zAd (q := 0) E rfl rfl rfl) ?_; clear E a; intro a E
   refine zyd E hb14 ?_; clear E a; intro a E
   refine zy E hb14 (zAz (vs := [_, _, _, _, _, _, _, _, _, _, _, _, _]) E rfl rfl rfl (S.get pZ) rfl rfl) ?_; clear E a; intro a E
   refine zBk E rfl rfl rfl rfl hb14 ?_; refine zJo E rfl dZ rfl rfl q1 q2 q3 rfl (mayK_ret hR hs (List.mem_cons_of_mem _ (List.mem_cons_of_mem _ hC)) _ S.hp hk) ?_
   rintro v18 w ⟨rfl, hT⟩; clear E a; intro a E
   have S := S.all hT
   refine zyd E hb14 ?_; clear E a; intro a E
   refine zp E (zAe E rfl rfl hb14 rfl) ?_; clear E a; intro a E
   refine zd E ?_; clear E a; intro a E
   refine zAj E (t := 21) rfl (fun hb21 => ?_) (fun hb21 => ?_)
   ·have hb21n := hb21; replace hb21n := Nrm.nrm hb21n
    iterate 4 (refine zn E hb21 ?_; clear E a; intro a E)
    refine zp E (zAf E rfl rfl hb21 rfl) ?_; clear E a; intro a E
    refine wpList_nil ?_
    refine zAb hK ?_; clear hK K
    refine zBo E rfl rfl ?_
    refine wp_seq_k ?_; intro K hK
    refine zAa ?_
    refine zd E ?_; clear E a; intro a E
    refine wpList_nil ?_
    refine zAb hK ?_; clear hK K
    refine wp_ret ?_
    refine zAn ?_; clear hK K
    refine ret1 E rfl rfl ?_
    refine ⟨_, rfl, ?_, S.tail2.tr⟩
    clear S E H hR hs
    simp_all [ckE, ckB]
   ·have hb21n := hb21; replace hb21n := Nrm.nrm hb21n
    refine zy E hb21 (zAz (vs := [_, _, _, _, _, _, _, _, _, _, _, _, _]) E rfl rfl rfl (S.get pZ) rfl rfl) ?_; clear E a; intro a E
    refine zBk E rfl rfl rfl rfl hb21 ?_; refine zBy E rfl dZ rfl Tryz.func27 rfl yZ rfl (bare_ret hR _ S.hp) ?_
    rintro v23 w ⟨pv', kv', dv', rfl, hR', hT⟩; clear E a; intro a E
    have S := S.all hT
    refine zBk E rfl rfl rfl rfl hb21 ?_; refine zBy E rfl dZ rfl Tryz.func26 rfl yZ rfl (empty_ret hR' hs.bare _ S.hp) ?_
    rintro v24 w ⟨rfl, hT⟩; clear E a; intro a E
    have S := S.all hT
    refine zyd E hb21 ?_; clear E a; intro a E
    refine zp E (zAe E rfl rfl hb21 rfl) ?_; clear E a; intro a E
    refine wpList_nil ?_
    refine zAb hK ?_; clear hK K
    refine zAs E rfl (fun hb => ?_) (fun hb => ?_)
    ·replace hb := Nrm.nrm hb
     refine wp_seq_k ?_; intro K hK
     refine zAa ?_
     refine zd E ?_; clear E a; intro a E
     refine wpList_nil ?_
     refine zAb hK ?_; clear hK K
     refine wp_ret ?_
     refine zAn ?_; clear hK K
     refine ret1 E rfl rfl ?_
     refine ⟨_, rfl, ?_, S.tail2.tr⟩
     clear S E H hR hs
     simp_all [ckE, ckB]
    ·replace hb := Nrm.nrm hb
     refine wp_skip ?_
     refine zAb hK ?_; clear hK K
     refine wp_seq_k ?_; intro K hK
     refine zAa ?_
     refine zd E ?_; clear E a; intro a E
     refine wpList_nil ?_
     refine zAb hK ?_; clear hK K
     refine wp_ret ?_
     refine ret1 E rfl rfl ?_
     refine ⟨_, rfl, ?_, S.tail2.tr⟩
     clear S E H hR hs
     simp_all [ckE, ckB]
end Go.Proofs.YtbogecljkaimdaaGreatDoor
namespace Go.Sl
def txt (t : List UInt8) : List UInt8 := zBj t.length 2 ++ t
theorem zCo (t : List UInt8) : (txt t).length = 2 + t.length := by simp [txt, zAx]
theorem text_fits {s : Wr} {t : List UInt8} (he : s.e = 0) (h1 : t.length ≤ 65535) (hr : s.bs.length + (2 + t.length) ≤ s.room) : s.text t = { s with bs := s.bs ++ txt t } := by
 have hf : s.fits (txt t) = true := by simp only [Wr.fits, zCo, decide_eq_true_eq]; omega
 have hg : ¬ t.length > 65535 := by omega
 have ht : textE t = .inr (txt t) := by simp only [textE, if_neg hg]; rfl
 simp [Wr.text, Wr.lay, ht, he, Wr.putE, Wr.putS, hf]
theorem zJy {z : Int} (h : 0 ≤ z) (h2 : z ≤ 9223372036854775807) : IntKind.u64.wrap z = ((z.toNat : Nat) : Int) := by
 rw [IntWalk.u64_in _ oZ]; omega
def zGs (l : List Int) (size : Nat) (more : Int) : List UInt8 := l.flatMap fun n => zBj (n + more).toNat size
theorem zGt (l : List Int) (size : Nat) (more : Int) : (zGs l size more).length = l.length * size := by
 induction l with
 | nil => simp [zGs]
 | cons a l ih =>
  have : zGs (a :: l) size more = zBj (a + more).toNat size ++ zGs l size more := rfl
  rw [this, List.length_append, ih, zAx, List.length_cons, Nat.succ_mul]; omega
theorem keepB_step {l : List Int} {i : Nat} (h : i < l.length) (size : Nat) (more : Int) : zGs (l.take (i + 1)) size more = zGs (l.take i) size more ++ zBj (l[i] + more).toNat size := by
 rw [← List.take_append_getElem h]
 simp only [zGs, List.flatMap_append]
 simp
def zFg (l : List Prp) : List UInt8 := l.flatMap fun p => txt p.name ++ txt p.value
theorem propsL_step {l : List Prp} {i : Nat} (h : i < l.length) : zFg (l.take (i + 1)) = zFg (l.take i) ++ (txt l[i].name ++ txt l[i].value) := by
 rw [← List.take_append_getElem h]
 simp only [zFg, List.flatMap_append]
 simp
theorem propsL_le {l : List Prp} (h : ∀ p ∈ l, p.name.length ≤ 24 ∧ p.value.length ≤ 64) : (zFg l).length ≤ 92 * l.length := by
 induction l with
 | nil => simp [zFg]
 | cons a l ih =>
  have h1 := h a (List.mem_cons_self ..)
  have h2 := ih fun p hp => h p (List.mem_cons_of_mem _ hp)
  have : zFg (a :: l) = (txt a.name ++ txt a.value) ++ zFg l := rfl
  rw [this, List.length_append, List.length_append, zCo, zCo, List.length_cons]; omega
def body1 (r : Rec) : List UInt8 := txt r.name ++ zBj r.many.toNat 2
def body2 (r : Rec) : List UInt8 := txt r.name ++ (zBj r.typ.toNat 1 ++ (zBj r.frm.toNat 6 ++ (zBj r.guid.toNat 6 ++ (zBj r.origin.toNat 1 ++ (txt r.snap ++ (zBj r.props.length 1 ++ zFg r.props))))))
def body3 (r : Rec) : List UInt8 := zBj r.keep.length 2 ++ zGs r.keep 4 0
def body4 (r : Rec) : List UInt8 := zBj r.object.toNat 4 ++ (zBj r.keep.length 2 ++ zGs r.keep 2 1)
def body5 (r : Rec) : List UInt8 := zBj r.object.toNat 4 ++ (zBj (r.at_ + 1).toNat 2 ++ (zBj r.data.length 2 ++ r.data))
def body6 (r : Rec) : List UInt8 := zBj r.many.toNat 4
def zEx (k : Int) (r : Rec) : List UInt8 := if k = 1 then body1 r else if k = 2 then body2 r else if k = 3 then body3 r else if k = 4 then body4 r else if k = 5 then body5 r else body6 r
end Go.Sl
namespace Go.Proofs.YtbogecljkaimdaaGreatDoor
open Go.Sl
set_option maxRecDepth 10000
theorem zId (p room : Nat) (bs : List UInt8) (A : zAl) (w0 : World) (hA : WrC 94 p ⟨room, bs, 0⟩ A) (t : List UInt8) (H : Hp w0 [A]) (hr : room ≤ 140737488355328) (h1 : t.length ≤ 65535) (hl : bs.length + (2 + t.length) ≤ room) :
  Ret Tryz.prog 51 #[ptr p, str t] w0 fun _ w' => ∃ A', WrC 94 p ⟨room, bs ++ txt t, 0⟩ A' ∧ Trs w0 w' [A] [A'] := by
 refine (text_ret p _ A w0 hA t H hr).mono fun v w' ⟨A', h, hT⟩ => ⟨A', ?_, hT⟩
 rw [text_fits rfl h1 hl] at h
 exact h
theorem zJz {C : zAl} {l : List Int} {v : Value} (hR : Rd C 1 v l.length (ints l)) (hl : l.length ≤ 240) (size : Nat) (more : Int) (h1 : 1 ≤ size) (h4 : size ≤ 4) (hm : 0 ≤ more ∧ more ≤ 1) (hbd : ∀ n ∈ l, 0 ≤ n + more ∧ n + more < 256 ^ size ∧ n ≤ 4294967296)
  (p : Nat) (bs : List UInt8) (A : zAl) (hA : WrC 94 p ⟨2048, bs, 0⟩ A) (hf : bs.length + 2 + l.length * size ≤ 2048) {As : List zAl} (hC : C ∈ As) (w0 : World) (H : Hp w0 (A :: As)) :
  Ret Tryz.prog 58 #[ptr p, v, .int .i64 size, .int .i64 more] w0 fun _ w' => ∃ A', WrC 94 p ⟨2048, bs ++ (zBj l.length 2 ++ zGs l size more), 0⟩ A' ∧ Trs w0 w' (A :: As) (A' :: As) := by
 have S := St.begin H
 obtain ⟨ad, c, rfl⟩ := hR.slice
 refine enter4 29 Tryz.func58 rfl rfl dZ ?_; intro a E
 refine wp_seq_k ?_; intro K hK
 refine zAa ?_
 iterate 3 (refine zd E ?_; clear E a; intro a E)
 refine zp E (by first | exact zAo E rfl rfl rfl rfl (by first | exact wu8 _ | exact zCz oZ | exact zCe oZ | exact w_in oZ | exact zBb oZ | exact rfl) | exact zBh E rfl rfl rfl rfl rfl (by assumption) (S.stab.at (by simp))) ?_; clear E a; intro a E
 refine zAh E rfl rfl dZ rfl Tryz.func30 rfl yZ rfl (zEd p 2048 bs A _ hA l.length 2 (S.hp.sel sZ) oZ oZ oZ oZ oZ) ?_
 rintro v14 w ⟨A1, hA1, hT⟩; clear E a; intro a E
 have S := S.call1 sZ hT
 refine wpList_nil ?_
 refine zAb hK ?_; clear hK K
 refine wp_seq_k ?_; intro K hK
 refine zAa ?_
 iterate 3 (refine zd E ?_; clear E a; intro a E)
 refine wpList_nil ?_
 refine zAb hK ?_; clear hK K
 refine wp_block ?_
 refine wp_loop_ghost (fun (m : Nat) (a : Act) (w' : World) => ∃ (i : Nat) (A' : zAl), m = l.length - i ∧ i ≤ l.length ∧ WrC 94 p ⟨2048, bs ++ (zBj l.length 2 ++ zGs (l.take i) size more), 0⟩ A' ∧ St w0 (A :: As) w' (A' :: As) ∧ Fr a 29 [(0, ptr p), (2, .int .i64 size), (3, .int .i64 more), (15, .slice ad l.length c), (16, .int .i64 l.length), (17, .int .i64 i)]) (l.length) ?_ ?_
 ·exact ⟨0, A1, by omega, by omega, by simpa [zGs] using hA1, S, E.keep (kE6 rfl rfl rfl rfl rfl rfl)⟩
 clear E; clear a; (try clear S); rintro m a w ⟨i, A', rfl, hi, hA', S, E⟩
 refine wp_seq_k ?_; intro K hK
 refine zAa ?_
 refine zd E ?_; clear E a; intro a E
 refine wpList_nil ?_
 refine zAb hK ?_; clear hK K
 refine wp_seq_k ?_; intro K hK
 refine zAs E rfl (fun hb => ?_) (fun hb => ?_)
 ·replace hb := Nrm.nrm hb
  refine wp_skip ?_
  refine zAb hK ?_; clear hK K
  refine wp_seq_k ?_; intro K hK
  refine wp_block ?_
  refine wp_seq_k ?_; intro K hK
  have hil : i < l.length := by omega
  obtain ⟨b, off, rfl⟩ := hR.addr oZ
  have hbi := hbd _ (List.getElem_mem hil)
  have hki : i * size + size ≤ l.length * size := by rw [← Nat.succ_mul]; exact Nat.mul_le_mul_right _ hil
  refine zAa ?_
  refine zp E (by first | exact zAw E rfl rfl rfl rfl rfl rfl oZ | exact zBe E rfl rfl rfl rfl rfl rfl oZ | exact zAu E rfl rfl rfl rfl rfl rfl oZ) ?_; clear E a; intro a E
  refine zp E (zBd E rfl rfl rfl (hR.cells (S.stab.at (List.mem_cons_of_mem _ hC)) rfl i _ (zGh hil))) ?_; clear E a; intro a E
  refine zd E ?_; clear E a; intro a E
  refine wpList_nil ?_
  refine zAb hK ?_; clear hK K
  refine zAa ?_
  iterate 3 (refine zd E ?_; clear E a; intro a E)
  refine zp E (zBc E rfl rfl rfl (w_in oZ)) ?_; clear E a; intro a E
  refine zp E (zAo E rfl rfl rfl rfl (zJy hbi.1 oZ)) ?_; clear E a; intro a E
  refine zd E ?_; clear E a; intro a E
  refine zAh E rfl rfl dZ rfl Tryz.func30 rfl yZ rfl (zEd p 2048 _ A' _ hA' (l[i] + more).toNat size (S.hp.sel sZ) oZ h1 oZ (by have := hbi.2.1; have h0 := hbi.1; exact (Int.toNat_lt h0).2 (by exact_mod_cast this)) (by simp only [List.length_append, zAx, zGt, List.length_take]; rw [Nat.min_eq_left hi]; omega)) ?_
  rintro v27 w ⟨A2, hA2, hT⟩; clear E a; intro a E
  have S := S.call1 sZ hT
  refine wpList_nil ?_
  refine zAr ?_
  refine zAb hK ?_; clear hK K
  refine zAa ?_
  refine zp E (zBc E rfl rfl rfl (by first | exact zBq (y := 1) oZ | exact w_in oZ | exact zBb oZ | exact rfl)) ?_; clear E a; intro a E
  refine zd E ?_; clear E a; intro a E
  refine wpList_nil ?_
  refine zAy ?_
  exact ⟨_, by omega, i + 1, A2, rfl, by omega, by rw [keepB_step hil]; simpa using hA2, S, E.keep (kE6 rfl rfl rfl rfl rfl rfl)⟩
 ·replace hb := Nrm.nrm hb
  refine wp_exit ?_
  refine zAp ?_; clear hK K
  refine zAp ?_
  refine zBr ?_
  refine end0 E rfl ?_
  obtain rfl : i = l.length := by omega
  rw [List.take_length] at hA'
  exact ⟨_, rfl, A', hA', S.tr⟩
end Go.Proofs.YtbogecljkaimdaaGreatDoor
