/-
  Texts put together (10).
-/
import Derived.Test.YtbogecljkaimdaaGreatDoorZRecordReadsW9
set_option maxHeartbeats 1000000
namespace Go.Sl
theorem beg_no {r : Rec} (h : ¬ begP r) : begB r = false := by simp [begB, h]
end Go.Sl
namespace Go.Proofs.YtbogecljkaimdaaGreatDoor
open Go.Sl
set_option maxRecDepth 10000
section
variable {C : zAl} {r : Rec} {pv kv dv : Value} (hR : RecR C r pv kv dv) (hs : Sml r) {As : List zAl} (hC : C ∈ As) (w0 : World) (H : Hp w0 As)
include hR hs hC H
set_option maxHeartbeats 1000000 in
theorem ubegin_ret : Ret Tryz.prog 35 #[.agg (r.cells pv kv dv).toArray] w0 fun u w' => u = .bool (begB r) ∧ Trs w0 w' As As := by
 have S := St.begin H
 have h1 := hs.name
 have h2 := hs.snap
 have h3 := hs.props
 have hp := hR.pr
 obtain ⟨ad, c, rfl⟩ := hp.slice
 refine zCd 130 Tryz.func35 rfl rfl dZ ?_; intro a E
 refine wp_seq_k ?_; intro K hK
 refine zAa ?_
 refine zAg rfl (zBx E S rfl rfl dZ rfl rfl ?_); clear E S a; intro a w b1 E S
 refine zd E ?_; clear E a; intro a E
 refine wpList_nil ?_
 refine zAb hK ?_; clear hK K
 refine wp_seq_k ?_; intro K hK
 obtain ⟨nm, hnm⟩ : ∃ nm, nm = r.name := ⟨_, rfl⟩
 have hcells : r.cells (.slice ad r.props.length c) kv dv = [.int .i64 r.kind, str nm, .int .i64 r.typ, .int .i64 r.frm, .int .i64 r.guid, .int .i64 r.origin, str r.snap, .slice ad r.props.length c, .int .i64 r.object, .int .i64 r.at_, .int .i64 r.many, kv, dv] := (by rw [hnm]; rfl)
 rw [hcells] at S
 refine zDd (fun (a : Act) (w' : World) => St w0 As w' ([(b1, cel [.int .i64 r.kind, str nm, .int .i64 r.typ, .int .i64 r.frm, .int .i64 r.guid, .int .i64 r.origin, str r.snap, .slice ad r.props.length c, .int .i64 r.object, .int .i64 r.at_, .int .i64 r.many, kv, dv] 26)] :: As) ∧ Fr a 130 [(1, ptr b1), (2, .bool false), (3, .bool (behB nm))]) ?_ ?_
 ·skip
  refine zAa ?_
  refine zp E (by first | exact zAc (q := 1) E rfl rfl rfl | exact zAd (q := 1) E rfl rfl rfl) ?_; clear E a; intro a E
  iterate 3 (refine zd E ?_; clear E a; intro a E)
  refine zAj E (t := 14) rfl (fun hb14 => ?_) (fun hb14 => ?_)
  ·have hb14n := hb14; replace hb14n := Nrm.nrm hb14n
   iterate 5 (refine zn E hb14 ?_; clear E a; intro a E)
   iterate 4 (refine zu E ?_; clear E a; intro a E)
   refine zn E hb14 ?_; clear E a; intro a E
   refine zp E (zAf E rfl rfl hb14 rfl) ?_; clear E a; intro a E
   refine zd E ?_; clear E a; intro a E
   refine wpList_nil ?_
   refine zAk ?_
   have e : nm = [] := (by simpa using hb14)
   subst e
   exact ⟨S, E.keep (kE3 rfl rfl rfl)⟩
  ·have hb14n := hb14; replace hb14n := Nrm.nrm hb14n
   obtain ⟨c0, tl, rfl⟩ := List.exists_cons_of_ne_nil (show nm ≠ [] by simpa using hb14)
   refine zy E hb14 (by first | exact zAc (q := 1) E rfl rfl rfl | exact zAd (q := 1) E rfl rfl rfl) ?_; clear E a; intro a E
   refine zyd E hb14 ?_; clear E a; intro a E
   refine zy E hb14 (zCi (l := c0 :: tl) (i := 0) E rfl rfl rfl rfl rfl (Nat.succ_pos _)) ?_; clear E a; intro a E
   iterate 2 (refine zyd E hb14 ?_; clear E a; intro a E)
   refine zAj E (t := 19) rfl (fun hb19 => ?_) (fun hb19 => ?_)
   ·have hb19n := hb19; replace hb19n := Nrm.nrm hb19n
    refine zy E hb19 (by first | exact zAc (q := 1) E rfl rfl rfl | exact zAd (q := 1) E rfl rfl rfl) ?_; clear E a; intro a E
    refine zyd E hb19 ?_; clear E a; intro a E
    refine zy E hb19 (rn_cat E rfl rfl rfl (by rw [← hnm] at h1; simp only [List.length_cons, List.length_nil] at *; omega)) ?_; clear E a; intro a E
    refine zBk E rfl rfl rfl rfl hb19 ?_; refine zBy E rfl dZ rfl Tryz.func79 rfl yZ rfl (uName_ret (120 :: c0 :: tl) (by rw [List.length_cons, hnm]; omega) _ _ S.hp) ?_
    rintro v23 w ⟨rfl, hT⟩; clear E a; intro a E
    have S := S.all hT
    refine zy E hb14 (zAf E rfl rfl hb19 rfl) ?_; clear E a; intro a E
    refine zp E (zAe E rfl rfl hb14 rfl) ?_; clear E a; intro a E
    refine zd E ?_; clear E a; intro a E
    refine wpList_nil ?_
    refine zAk ?_
    have hb19n : (c0.toNat : Int) = 47 := hb19n
    have e : c0 = 47 := UInt8.toNat_inj.1 (show c0.toNat = 47 by omega)
    have e2 : behB (c0 :: tl) = nameB (120 :: c0 :: tl) := by simp [behB, e]
    rw [e2]
    exact ⟨S, E.keep (kE3 rfl rfl rfl)⟩
   ·have hb19n := hb19; replace hb19n := Nrm.nrm hb19n
    iterate 4 (refine zn E hb19 ?_; clear E a; intro a E)
    refine zy E hb14 (zAe E rfl rfl hb19 rfl) ?_; clear E a; intro a E
    refine zp E (zAe E rfl rfl hb14 rfl) ?_; clear E a; intro a E
    refine zd E ?_; clear E a; intro a E
    refine wpList_nil ?_
    refine zAk ?_
    have e : ¬ c0 = 47 := fun q => by subst q; simp at hb19n
    have e2 : behB (c0 :: tl) = false := by simp [behB, e]
    rw [e2]
    exact ⟨S, E.keep (kE3 rfl rfl rfl)⟩
 ·clear E S a; intro a w J; obtain ⟨S, E⟩ := J
  refine zAb hK ?_; clear hK K
  refine wp_seq_k ?_; intro K hK
  refine zAa ?_
  refine zp E (by first | exact zAc (q := 6) E rfl rfl rfl | exact zAd (q := 6) E rfl rfl rfl) ?_; clear E a; intro a E
  refine zd E ?_; clear E a; intro a E
  refine zAh E rfl rfl dZ rfl Tryz.func34 rfl yZ rfl (zKj r.snap oZ _ _ S.hp) ?_
  rintro v28 w ⟨rfl, hT⟩; clear E a; intro a E
  have S := S.all hT
  refine zd E ?_; clear E a; intro a E
  refine wpList_nil ?_
  refine zAb hK ?_; clear hK K
  refine wp_seq_k ?_; intro K hK
  refine zDd (fun (a : Act) (w' : World) => ∃ z, (z = true ↔ ((1 ≤ r.typ ∧ r.typ ≤ 2) ∧ (0 ≤ r.frm ∧ r.frm ≤ 2199023255552) ∧ (1 ≤ r.guid ∧ r.guid ≤ 2199023255552))) ∧ St w0 As w' ([(b1, cel [.int .i64 r.kind, str nm, .int .i64 r.typ, .int .i64 r.frm, .int .i64 r.guid, .int .i64 r.origin, str r.snap, .slice ad r.props.length c, .int .i64 r.object, .int .i64 r.at_, .int .i64 r.many, kv, dv] 26)] :: As) ∧ Fr a 130 [(1, ptr b1), (2, .bool false), (3, .bool (behB nm)), (4, .bool (zEw r.snap)), (5, .bool z)]) ?_ ?_
  ·skip
   refine zAa ?_
   refine zp E (by first | exact zAc (q := 2) E rfl rfl rfl | exact zAd (q := 2) E rfl rfl rfl) ?_; clear E a; intro a E
   iterate 3 (refine zd E ?_; clear E a; intro a E)
   refine zAj E (t := 32) rfl (fun hb32 => ?_) (fun hb32 => ?_)
   ·have hb32n := hb32; replace hb32n := Nrm.nrm hb32n
    refine zy E hb32 (by first | exact zAc (q := 2) E rfl rfl rfl | exact zAd (q := 2) E rfl rfl rfl) ?_; clear E a; intro a E
    iterate 2 (refine zyd E hb32 ?_; clear E a; intro a E)
    refine zp E (zAf E rfl rfl hb32 rfl) ?_; clear E a; intro a E
    refine zd E ?_; clear E a; intro a E
    refine zAj E (t := 37) rfl (fun hb37 => ?_) (fun hb37 => ?_)
    ·have hb37n := hb37; replace hb37n := Nrm.nrm hb37n
     refine zy E hb37 (by first | exact zAc (q := 3) E rfl rfl rfl | exact zAd (q := 3) E rfl rfl rfl) ?_; clear E a; intro a E
     iterate 2 (refine zyd E hb37 ?_; clear E a; intro a E)
     refine zp E (zAf E rfl rfl hb37 rfl) ?_; clear E a; intro a E
     refine zd E ?_; clear E a; intro a E
     refine zAj E (t := 42) rfl (fun hb42 => ?_) (fun hb42 => ?_)
     ·have hb42n := hb42; replace hb42n := Nrm.nrm hb42n
      refine zy E hb42 (by first | exact zAc (q := 3) E rfl rfl rfl | exact zAd (q := 3) E rfl rfl rfl) ?_; clear E a; intro a E
      iterate 2 (refine zyd E hb42 ?_; clear E a; intro a E)
      refine zp E (zAf E rfl rfl hb42 rfl) ?_; clear E a; intro a E
      refine zd E ?_; clear E a; intro a E
      refine zAj E (t := 47) rfl (fun hb47 => ?_) (fun hb47 => ?_)
      ·have hb47n := hb47; replace hb47n := Nrm.nrm hb47n
       refine zy E hb47 (by first | exact zAc (q := 4) E rfl rfl rfl | exact zAd (q := 4) E rfl rfl rfl) ?_; clear E a; intro a E
       iterate 2 (refine zyd E hb47 ?_; clear E a; intro a E)
       refine zp E (zAf E rfl rfl hb47 rfl) ?_; clear E a; intro a E
       refine zd E ?_; clear E a; intro a E
       refine zAj E (t := 52) rfl (fun hb52 => ?_) (fun hb52 => ?_)
       ·have hb52n := hb52; replace hb52n := Nrm.nrm hb52n
        refine zy E hb52 (by first | exact zAc (q := 4) E rfl rfl rfl | exact zAd (q := 4) E rfl rfl rfl) ?_; clear E a; intro a E
        iterate 2 (refine zyd E hb52 ?_; clear E a; intro a E)
        refine zp E (zAf E rfl rfl hb52 rfl) ?_; clear E a; intro a E
        refine zd E ?_; clear E a; intro a E
        refine wpList_nil ?_
        refine zAk ?_
        exact ⟨_, ⟨fun q => by first | omega | (simp only [decide_eq_true_eq] at q; omega) | (simp at q; omega) | exact Bool.noConfusion q, fun q => by first | rfl | (simp only [decide_eq_true_eq]; omega) | (exfalso; omega) | (simp; omega)⟩, S, E.keep (kE5 rfl rfl rfl rfl rfl)⟩
       ·have hb52n := hb52; replace hb52n := Nrm.nrm hb52n
        iterate 3 (refine zn E hb52 ?_; clear E a; intro a E)
        refine zp E (zAe E rfl rfl hb52 rfl) ?_; clear E a; intro a E
        refine zd E ?_; clear E a; intro a E
        refine wpList_nil ?_
        refine zAk ?_
        exact ⟨_, ⟨fun q => by first | omega | (simp only [decide_eq_true_eq] at q; omega) | (simp at q; omega) | exact Bool.noConfusion q, fun q => by first | rfl | (simp only [decide_eq_true_eq]; omega) | (exfalso; omega) | (simp; omega)⟩, S, E.keep (kE5 rfl rfl rfl rfl rfl)⟩
      ·have hb47n := hb47; replace hb47n := Nrm.nrm hb47n
       iterate 3 (refine zn E hb47 ?_; clear E a; intro a E)
       refine zp E (zAe E rfl rfl hb47 rfl) ?_; clear E a; intro a E
       refine zd E ?_; clear E a; intro a E
       iterate 3 (refine zn E rfl ?_; clear E a; intro a E)
       refine zp E (zAe E rfl rfl rfl rfl) ?_; clear E a; intro a E
       refine zd E ?_; clear E a; intro a E
       refine wpList_nil ?_
       refine zAk ?_
       exact ⟨_, ⟨fun q => by first | omega | (simp only [decide_eq_true_eq] at q; omega) | (simp at q; omega) | exact Bool.noConfusion q, fun q => by first | rfl | (simp only [decide_eq_true_eq]; omega) | (exfalso; omega) | (simp; omega)⟩, S, E.keep (kE5 rfl rfl rfl rfl rfl)⟩
     ·have hb42n := hb42; replace hb42n := Nrm.nrm hb42n
      iterate 3 (refine zn E hb42 ?_; clear E a; intro a E)
      refine zp E (zAe E rfl rfl hb42 rfl) ?_; clear E a; intro a E
      refine zd E ?_; clear E a; intro a E
      iterate 3 (refine zn E rfl ?_; clear E a; intro a E)
      refine zp E (zAe E rfl rfl rfl rfl) ?_; clear E a; intro a E
      refine zd E ?_; clear E a; intro a E
      iterate 3 (refine zn E rfl ?_; clear E a; intro a E)
      refine zp E (zAe E rfl rfl rfl rfl) ?_; clear E a; intro a E
      refine zd E ?_; clear E a; intro a E
      refine wpList_nil ?_
      refine zAk ?_
      exact ⟨_, ⟨fun q => by first | omega | (simp only [decide_eq_true_eq] at q; omega) | (simp at q; omega) | exact Bool.noConfusion q, fun q => by first | rfl | (simp only [decide_eq_true_eq]; omega) | (exfalso; omega) | (simp; omega)⟩, S, E.keep (kE5 rfl rfl rfl rfl rfl)⟩
    ·have hb37n := hb37; replace hb37n := Nrm.nrm hb37n
     iterate 3 (refine zn E hb37 ?_; clear E a; intro a E)
     refine zp E (zAe E rfl rfl hb37 rfl) ?_; clear E a; intro a E
     refine zd E ?_; clear E a; intro a E
     iterate 3 (refine zn E rfl ?_; clear E a; intro a E)
     refine zp E (zAe E rfl rfl rfl rfl) ?_; clear E a; intro a E
     refine zd E ?_; clear E a; intro a E
     iterate 3 (refine zn E rfl ?_; clear E a; intro a E)
     refine zp E (zAe E rfl rfl rfl rfl) ?_; clear E a; intro a E
     refine zd E ?_; clear E a; intro a E
     iterate 3 (refine zn E rfl ?_; clear E a; intro a E)
     refine zp E (zAe E rfl rfl rfl rfl) ?_; clear E a; intro a E
     refine zd E ?_; clear E a; intro a E
     refine wpList_nil ?_
     refine zAk ?_
     exact ⟨_, ⟨fun q => by first | omega | (simp only [decide_eq_true_eq] at q; omega) | (simp at q; omega) | exact Bool.noConfusion q, fun q => by first | rfl | (simp only [decide_eq_true_eq]; omega) | (exfalso; omega) | (simp; omega)⟩, S, E.keep (kE5 rfl rfl rfl rfl rfl)⟩
   ·have hb32n := hb32; replace hb32n := Nrm.nrm hb32n
    iterate 3 (refine zn E hb32 ?_; clear E a; intro a E)
    refine zp E (zAe E rfl rfl hb32 rfl) ?_; clear E a; intro a E
    refine zd E ?_; clear E a; intro a E
    iterate 3 (refine zn E rfl ?_; clear E a; intro a E)
    refine zp E (zAe E rfl rfl rfl rfl) ?_; clear E a; intro a E
    refine zd E ?_; clear E a; intro a E
    iterate 3 (refine zn E rfl ?_; clear E a; intro a E)
    refine zp E (zAe E rfl rfl rfl rfl) ?_; clear E a; intro a E
    refine zd E ?_; clear E a; intro a E
    iterate 3 (refine zn E rfl ?_; clear E a; intro a E)
    refine zp E (zAe E rfl rfl rfl rfl) ?_; clear E a; intro a E
    refine zd E ?_; clear E a; intro a E
    iterate 3 (refine zn E rfl ?_; clear E a; intro a E)
    refine zp E (zAe E rfl rfl rfl rfl) ?_; clear E a; intro a E
    refine zd E ?_; clear E a; intro a E
    refine wpList_nil ?_
    refine zAk ?_
    exact ⟨_, ⟨fun q => by first | omega | (simp only [decide_eq_true_eq] at q; omega) | (simp at q; omega) | exact Bool.noConfusion q, fun q => by first | rfl | (simp only [decide_eq_true_eq]; omega) | (exfalso; omega) | (simp; omega)⟩, S, E.keep (kE5 rfl rfl rfl rfl rfl)⟩
  ·clear E S a; intro a w J; obtain ⟨z1, hz1, S, E⟩ := J
   refine zAb hK ?_; clear hK K
   refine wp_seq_k ?_; intro K hK
   refine zDd (fun (a : Act) (w' : World) => ∃ z, (z = true ↔ (r.origin = 0 ∨ (r.origin = 1 ∧ 0 < r.frm))) ∧ St w0 As w' ([(b1, cel [.int .i64 r.kind, str nm, .int .i64 r.typ, .int .i64 r.frm, .int .i64 r.guid, .int .i64 r.origin, str r.snap, .slice ad r.props.length c, .int .i64 r.object, .int .i64 r.at_, .int .i64 r.many, kv, dv] 26)] :: As) ∧ Fr a 130 [(1, ptr b1), (2, .bool false), (3, .bool (behB nm)), (4, .bool (zEw r.snap)), (5, .bool z1), (6, .bool z)]) ?_ ?_
   ·skip
    refine zAa ?_
    refine zp E (by first | exact zAc (q := 5) E rfl rfl rfl | exact zAd (q := 5) E rfl rfl rfl) ?_; clear E a; intro a E
    iterate 3 (refine zd E ?_; clear E a; intro a E)
    refine zAj E (t := 60) rfl (fun hb60 => ?_) (fun hb60 => ?_)
    ·have hb60n := hb60; replace hb60n := Nrm.nrm hb60n
     iterate 4 (refine zn E hb60 ?_; clear E a; intro a E)
     iterate 3 (refine zu E ?_; clear E a; intro a E)
     refine zn E hb60 ?_; clear E a; intro a E
     refine zp E (zAf E rfl rfl hb60 rfl) ?_; clear E a; intro a E
     refine zd E ?_; clear E a; intro a E
     refine wpList_nil ?_
     refine zAk ?_
     exact ⟨_, ⟨fun q => by first | omega | (simp only [decide_eq_true_eq] at q; omega) | (simp at q; omega) | exact Bool.noConfusion q, fun q => by first | rfl | (simp only [decide_eq_true_eq]; omega) | (exfalso; omega) | (simp; omega)⟩, S, E.keep (kE6 rfl rfl rfl rfl rfl rfl)⟩
    ·have hb60n := hb60; replace hb60n := Nrm.nrm hb60n
     refine zy E hb60 (by first | exact zAc (q := 5) E rfl rfl rfl | exact zAd (q := 5) E rfl rfl rfl) ?_; clear E a; intro a E
     iterate 3 (refine zyd E hb60 ?_; clear E a; intro a E)
     refine zAj E (t := 64) rfl (fun hb64 => ?_) (fun hb64 => ?_)
     ·have hb64n := hb64; replace hb64n := Nrm.nrm hb64n
      refine zy E hb64 (by first | exact zAc (q := 3) E rfl rfl rfl | exact zAd (q := 3) E rfl rfl rfl) ?_; clear E a; intro a E
      iterate 2 (refine zyd E hb64 ?_; clear E a; intro a E)
      refine zy E hb60 (zAf E rfl rfl hb64 rfl) ?_; clear E a; intro a E
      refine zp E (zAe E rfl rfl hb60 rfl) ?_; clear E a; intro a E
      refine zd E ?_; clear E a; intro a E
      refine wpList_nil ?_
      refine zAk ?_
      exact ⟨_, ⟨fun q => by first | omega | (simp only [decide_eq_true_eq] at q; omega) | (simp at q; omega) | exact Bool.noConfusion q, fun q => by first | rfl | (simp only [decide_eq_true_eq]; omega) | (exfalso; omega) | (simp; omega)⟩, S, E.keep (kE6 rfl rfl rfl rfl rfl rfl)⟩
     ·have hb64n := hb64; replace hb64n := Nrm.nrm hb64n
      iterate 3 (refine zn E hb64 ?_; clear E a; intro a E)
      refine zy E hb60 (zAe E rfl rfl hb64 rfl) ?_; clear E a; intro a E
      refine zp E (zAe E rfl rfl hb60 rfl) ?_; clear E a; intro a E
      refine zd E ?_; clear E a; intro a E
      refine wpList_nil ?_
      refine zAk ?_
      exact ⟨_, ⟨fun q => by first | omega | (simp only [decide_eq_true_eq] at q; omega) | (simp at q; omega) | exact Bool.noConfusion q, fun q => by first | rfl | (simp only [decide_eq_true_eq]; omega) | (exfalso; omega) | (simp; omega)⟩, S, E.keep (kE6 rfl rfl rfl rfl rfl rfl)⟩
   ·clear E S a; intro a w J; obtain ⟨z2, hz2, S, E⟩ := J
    refine zAb hK ?_; clear hK K
    iterate 2 (refine wp_seq_k ?_; intro K hK)
    refine zDd (fun (a : Act) (w' : World) => ∃ z, (z = true ↔ ¬ (behB nm = true ∧ zEw r.snap = true ∧ z1 = true ∧ z2 = true ∧ r.props.length ≤ 12)) ∧ St w0 As w' ([(b1, cel [.int .i64 r.kind, str nm, .int .i64 r.typ, .int .i64 r.frm, .int .i64 r.guid, .int .i64 r.origin, str r.snap, .slice ad r.props.length c, .int .i64 r.object, .int .i64 r.at_, .int .i64 r.many, kv, dv] 26)] :: As) ∧ Fr a 130 [(1, ptr b1), (2, .bool false), (89, .bool z)]) ?_ ?_
    ·skip
     refine zAa ?_
     iterate 3 (refine zd E ?_; clear E a; intro a E)
     refine zAj E (t := 72) rfl (fun hb72 => ?_) (fun hb72 => ?_)
     ·have hb72n := hb72; replace hb72n := Nrm.nrm hb72n
      iterate 2 (refine zn E hb72 ?_; clear E a; intro a E)
      refine zp E (zAf E rfl rfl hb72 rfl) ?_; clear E a; intro a E
      refine zd E ?_; clear E a; intro a E
      iterate 2 (refine zn E rfl ?_; clear E a; intro a E)
      refine zp E (zAf E rfl rfl rfl rfl) ?_; clear E a; intro a E
      refine zd E ?_; clear E a; intro a E
      iterate 2 (refine zn E rfl ?_; clear E a; intro a E)
      refine zp E (zAf E rfl rfl rfl rfl) ?_; clear E a; intro a E
      refine zd E ?_; clear E a; intro a E
      iterate 4 (refine zn E rfl ?_; clear E a; intro a E)
      refine zp E (zAf E rfl rfl rfl rfl) ?_; clear E a; intro a E
      refine wpList_nil ?_
      refine zAk ?_
      exact ⟨_, by clear S E hz1 hz2 hnm hcells hR hs H; simp_all <;> omega, S, E.keep (kE3 rfl rfl rfl)⟩
     ·have hb72n := hb72; replace hb72n := Nrm.nrm hb72n
      iterate 2 (refine zyd E hb72 ?_; clear E a; intro a E)
      refine zp E (zAe E rfl rfl hb72 rfl) ?_; clear E a; intro a E
      refine zd E ?_; clear E a; intro a E
      refine zAj E (t := 76) rfl (fun hb76 => ?_) (fun hb76 => ?_)
      ·have hb76n := hb76; replace hb76n := Nrm.nrm hb76n
       iterate 2 (refine zn E hb76 ?_; clear E a; intro a E)
       refine zp E (zAf E rfl rfl hb76 rfl) ?_; clear E a; intro a E
       refine zd E ?_; clear E a; intro a E
       iterate 2 (refine zn E rfl ?_; clear E a; intro a E)
       refine zp E (zAf E rfl rfl rfl rfl) ?_; clear E a; intro a E
       refine zd E ?_; clear E a; intro a E
       iterate 4 (refine zn E rfl ?_; clear E a; intro a E)
       refine zp E (zAf E rfl rfl rfl rfl) ?_; clear E a; intro a E
       refine wpList_nil ?_
       refine zAk ?_
       exact ⟨_, by clear S E hz1 hz2 hnm hcells hR hs H; simp_all <;> omega, S, E.keep (kE3 rfl rfl rfl)⟩
      ·have hb76n := hb76; replace hb76n := Nrm.nrm hb76n
       iterate 2 (refine zyd E hb76 ?_; clear E a; intro a E)
       refine zp E (zAe E rfl rfl hb76 rfl) ?_; clear E a; intro a E
       refine zd E ?_; clear E a; intro a E
       refine zAj E (t := 80) rfl (fun hb80 => ?_) (fun hb80 => ?_)
       ·have hb80n := hb80; replace hb80n := Nrm.nrm hb80n
        iterate 2 (refine zn E hb80 ?_; clear E a; intro a E)
        refine zp E (zAf E rfl rfl hb80 rfl) ?_; clear E a; intro a E
        refine zd E ?_; clear E a; intro a E
        iterate 4 (refine zn E rfl ?_; clear E a; intro a E)
        refine zp E (zAf E rfl rfl rfl rfl) ?_; clear E a; intro a E
        refine wpList_nil ?_
        refine zAk ?_
        exact ⟨_, by clear S E hz1 hz2 hnm hcells hR hs H; simp_all <;> omega, S, E.keep (kE3 rfl rfl rfl)⟩
       ·have hb80n := hb80; replace hb80n := Nrm.nrm hb80n
        iterate 2 (refine zyd E hb80 ?_; clear E a; intro a E)
        refine zp E (zAe E rfl rfl hb80 rfl) ?_; clear E a; intro a E
        refine zd E ?_; clear E a; intro a E
        refine zAj E (t := 84) rfl (fun hb84 => ?_) (fun hb84 => ?_)
        ·have hb84n := hb84; replace hb84n := Nrm.nrm hb84n
         iterate 4 (refine zn E hb84 ?_; clear E a; intro a E)
         refine zp E (zAf E rfl rfl hb84 rfl) ?_; clear E a; intro a E
         refine wpList_nil ?_
         refine zAk ?_
         exact ⟨_, by clear S E hz1 hz2 hnm hcells hR hs H; simp_all <;> omega, S, E.keep (kE3 rfl rfl rfl)⟩
        ·have hb84n := hb84; replace hb84n := Nrm.nrm hb84n
         refine zy E hb84 (by first | exact zAc (q := 7) E rfl rfl rfl | exact zAd (q := 7) E rfl rfl rfl) ?_; clear E a; intro a E
         iterate 3 (refine zyd E hb84 ?_; clear E a; intro a E)
         refine zp E (zAe E rfl rfl hb84 rfl) ?_; clear E a; intro a E
         refine wpList_nil ?_
         refine zAk ?_
         exact ⟨_, by clear S E hz1 hz2 hnm hcells hR hs H; simp_all <;> omega, S, E.keep (kE3 rfl rfl rfl)⟩
    ·clear E S a; intro a w J; obtain ⟨z3, hz3, S, E⟩ := J
     refine zAb hK ?_; clear hK K
     refine zAs E rfl (fun hb => ?_) (fun hb => ?_)
     ·replace hb := Nrm.nrm hb
      refine wp_seq_k ?_; intro K hK
      refine zAa ?_
      refine zd E ?_; clear E a; intro a E
      refine wpList_nil ?_
      refine zAb hK ?_; clear hK K
      refine wp_ret ?_
      refine zAn ?_; clear hK K
      refine ret1 E rfl rfl ?_
      refine ⟨_, rfl, ?_, S.tail.tr⟩
      rw [beg_no]
      rintro ⟨q1, q2, q3, q4, q5, q6, q7⟩
      exact hz3.1 hb ⟨by rw [hnm]; exact q1, q6, hz1.2 ⟨q2, q3, q4⟩, hz2.2 q5, ((zGr _).1 q7).1⟩
     ·replace hb := Nrm.nrm hb
      refine wp_skip ?_
      refine zAb hK ?_; clear hK K
      iterate 2 (refine wp_seq_k ?_; intro K hK)
      have hok : behB nm = true ∧ zEw r.snap = true ∧ z1 = true ∧ z2 = true ∧ r.props.length ≤ 12 := Classical.byContradiction fun q => by rw [hz3.2 q] at hb; cases hb
      refine zAa ?_
      refine zd E ?_; clear E a; intro a E
      refine wpList_nil ?_
      refine zAb hK ?_; clear hK K
      refine wp_block ?_
      refine wp_loop_ghost (fun (m : Nat) (a : Act) (w' : World) => ∃ i : Nat, m = r.props.length - i ∧ i ≤ r.props.length ∧ (∀ k, ∀ hk : k < r.props.length, k < i → zHf r.props k hk) ∧ St w0 As w' ([(b1, cel [.int .i64 r.kind, str nm, .int .i64 r.typ, .int .i64 r.frm, .int .i64 r.guid, .int .i64 r.origin, str r.snap, .slice ad r.props.length c, .int .i64 r.object, .int .i64 r.at_, .int .i64 r.many, kv, dv] 26)] :: As) ∧ Fr a 130 [(1, ptr b1), (2, .bool false), (7, .int .i64 i)]) (r.props.length) ?_ ?_
      ·exact ⟨0, by omega, by omega, by intro k _ h; omega, S, E.keep (kE3 rfl rfl rfl)⟩
      clear E; clear a; (try clear S); rintro m a w ⟨i, rfl, hi, hpk, S, E⟩
      iterate 2 (refine wp_seq_k ?_; intro K hK)
      refine zAa ?_
      refine zd E ?_; clear E a; intro a E
      refine zp E (by first | exact zAc (q := 7) E rfl rfl rfl | exact zAd (q := 7) E rfl rfl rfl) ?_; clear E a; intro a E
      iterate 3 (refine zd E ?_; clear E a; intro a E)
      refine wpList_nil ?_
      refine zAb hK ?_; clear hK K
      refine zAs E rfl (fun hb => ?_) (fun hb => ?_)
      ·replace hb := Nrm.nrm hb
       refine wp_skip ?_
       refine zAb hK ?_; clear hK K
       refine wp_seq_k ?_; intro K hK
       refine wp_block ?_
       refine wp_seq_k ?_; intro K hK
       have hil : i < r.props.length := by omega
       obtain ⟨b, off, rfl⟩ := hp.addr oZ
       have hsi := hs.prop _ (List.getElem_mem hil)
       have hcl := hp.elem (lay := Prp.lay) Prp.lay_len (S.stab.at (List.Mem.tail _ hC)) hil
       obtain ⟨p, hpe⟩ : ∃ p, p = r.props[i] := ⟨_, rfl⟩
       rw [← hpe] at hsi hcl
       obtain ⟨pn, pvl⟩ := p
       simp only at hsi
       refine zAa ?_
       refine zp E (by first | exact zAc (q := 7) E rfl rfl rfl | exact zAd (q := 7) E rfl rfl rfl) ?_; clear E a; intro a E
       iterate 2 (refine zd E ?_; clear E a; intro a E)
       refine zp E (by first | exact zAw E rfl rfl rfl rfl rfl rfl oZ | exact zBe E rfl rfl rfl rfl rfl rfl oZ | exact zAu E rfl rfl rfl rfl rfl rfl oZ) ?_; clear E a; intro a E
       refine zp E (zDp (vs := [_, _]) E rfl rfl rfl rfl (hcl)) ?_; clear E a; intro a E
       refine zAg rfl (zBf E S rfl rfl dZ rfl rfl rfl ?_); clear E S a; intro a w b8 E S
       refine zAg rfl (zAq E S rfl rfl rfl rfl (by simp [Value.oneCell']) rfl pZ (by simp) ?_); clear E S a; intro a w E S; simp only [List.take_succ_cons, List.take_zero, List.drop_succ_cons, List.drop_zero, List.cons_append, List.nil_append, List.append_nil, List.length_cons, List.length_nil, Nat.zero_add, Nat.add_zero] at S
       refine wpList_nil ?_
       refine zAb hK ?_; clear hK K
       refine wp_seq_k ?_; intro K hK
       refine zAa ?_
       refine zp E (by first | exact zAc (q := 0) E rfl rfl rfl | exact zAd (q := 0) E rfl rfl rfl) ?_; clear E a; intro a E
       refine zd E ?_; clear E a; intro a E
       refine zAh E rfl rfl dZ rfl Tryz.func34 rfl yZ rfl (zKj pn oZ _ _ S.hp) ?_
       rintro v104 w ⟨rfl, hT⟩; clear E a; intro a E
       have S := S.all hT
       refine zd E ?_; clear E a; intro a E
       refine wpList_nil ?_
       refine zAb hK ?_; clear hK K
       refine wp_seq_k ?_; intro K hK
       refine zAa ?_
       refine zp E (by first | exact zAc (q := 1) E rfl rfl rfl | exact zAd (q := 1) E rfl rfl rfl) ?_; clear E a; intro a E
       refine zd E ?_; clear E a; intro a E
       refine zAh E rfl rfl dZ rfl Tryz.func80 rfl yZ rfl (uvalue20_ret pvl oZ _ _ S.hp) ?_
       rintro v107 w ⟨rfl, hT⟩; clear E a; intro a E
       have S := S.all hT
       refine zd E ?_; clear E a; intro a E
       refine wpList_nil ?_
       refine zAb hK ?_; clear hK K
       refine wp_seq_k ?_; intro K hK
       refine zDd (fun (a : Act) (w' : World) => ∃ z, (z = true ↔ ¬ zHf r.props i hil) ∧ St w0 As w' ([(b8, cel [str pn, str pvl] 70)] :: [(b1, cel [.int .i64 r.kind, str nm, .int .i64 r.typ, .int .i64 r.frm, .int .i64 r.guid, .int .i64 r.origin, str r.snap, .slice (some ⟨b, off, none⟩) r.props.length c, .int .i64 r.object, .int .i64 r.at_, .int .i64 r.many, kv, dv] 26)] :: As) ∧ Fr a 130 [(1, ptr b1), (2, .bool false), (7, .int .i64 i), (129, .bool z)]) ?_ ?_
       ·skip
        refine zCn S (.ofL [(0, 0), (1, 0), (2, 0), (3, 0), (4, 0), (5, 0), (6, 0), (7, 0), (8, 0), (9, 0), (10, 0), (11, 0), (12, 0), (13, 0), (14, 0), (15, 0), (16, 0), (17, 0), (18, 0), (19, 0), (20, 0), (21, 0)]) [C, [(b8, cel [str pn, str pvl] 70)], [(b1, cel [.int .i64 r.kind, str nm, .int .i64 r.typ, .int .i64 r.frm, .int .i64 r.guid, .int .i64 r.origin, str r.snap, .slice (some ⟨b, off, none⟩) r.props.length c, .int .i64 r.object, .int .i64 r.at_, .int .i64 r.many, kv, dv] 26)]] (fun h => h.sub (by first | (simp; done) | (simp +contextual; done) | (simp [*]; done))) yZ yZ ?_
        clear S; intro w S
        iterate 3 (refine zmd E ?_; clear E a; intro a E)
        refine zAj E (t := 110) rfl (fun hb110 => ?_) (fun hb110 => ?_)
        ·have hb110n := hb110; replace hb110n := Nrm.nrm hb110n
         iterate 2 (refine zBl E rfl rfl rfl rfl rfl hb110 rfl dZ ?_; clear E a; intro a E)
         refine zm E rfl (fun w h => zAf E rfl rfl hb110 rfl) ?_; clear E a; intro a E
         refine zmd E ?_; clear E a; intro a E
         iterate 3 (refine zBl E rfl rfl rfl rfl rfl rfl rfl dZ ?_; clear E a; intro a E)
         iterate 10 (refine zCx E rfl rfl rfl rfl rfl rfl dZ ?_; clear E a; intro a E)
         refine zBl E rfl rfl rfl rfl rfl rfl rfl dZ ?_; clear E a; intro a E
         refine zm E rfl (fun w h => zAf E rfl rfl rfl rfl) ?_; clear E a; intro a E
         refine zBi ?_
         refine zAk ?_
         refine ⟨_, ?_, S, E.keep (kE4 rfl rfl rfl rfl)⟩
         clear S E hcl hR hs H hz1 hz2 hz3 hcells
         unfold zHf
         rw [← hpe]
         first
          | (simp_all; done)
          | (clear hT hp hpk; simp_all <;> (intro q1 q2 q3; exfalso; rcases hb114 with (e | e) | e; subst e; simp at q1; omega; rw [e] at q3; cases q3))
        ·have hb110n := hb110; replace hb110n := Nrm.nrm hb110n
         refine zAm E rfl rfl rfl rfl rfl hb110 rfl dZ (fun w h => zDk E rfl rfl) ?_; clear E a; intro a E
         refine zAm E rfl rfl rfl rfl rfl hb110 rfl dZ (fun w h => zJk E rfl rfl) ?_; clear E a; intro a E
         refine zm E rfl (fun w h => zAe E rfl rfl hb110 rfl) ?_; clear E a; intro a E
         refine zmd E ?_; clear E a; intro a E
         refine zAj E (t := 114) rfl (fun hb114 => ?_) (fun hb114 => ?_)
         ·have hb114n := hb114; replace hb114n := Nrm.nrm hb114n
          iterate 3 (refine zBl E rfl rfl rfl rfl rfl hb114 rfl dZ ?_; clear E a; intro a E)
          iterate 10 (refine zCx E rfl rfl rfl rfl rfl rfl dZ ?_; clear E a; intro a E)
          refine zBl E rfl rfl rfl rfl rfl hb114 rfl dZ ?_; clear E a; intro a E
          refine zm E rfl (fun w h => zAf E rfl rfl hb114 rfl) ?_; clear E a; intro a E
          refine zBi ?_
          refine zAk ?_
          refine ⟨_, ?_, S, E.keep (kE4 rfl rfl rfl rfl)⟩
          clear S E hcl hR hs H hz1 hz2 hz3 hcells
          unfold zHf
          rw [← hpe]
          first
           | (simp_all; done)
           | (clear hT hp hpk; simp_all <;> (intro q1 q2 q3; exfalso; rcases hb114 with (e | e) | e; subst e; simp at q1; omega; rw [e] at q3; cases q3))
         ·have hb114n := hb114; replace hb114n := Nrm.nrm hb114n
          refine zAm E rfl rfl rfl rfl rfl hb114 rfl dZ (fun w h => zDk E rfl rfl) ?_; clear E a; intro a E
          refine zAm E rfl rfl rfl rfl rfl hb114 rfl dZ (fun w h => zJj E rfl rfl rfl) ?_; clear E a; intro a E
          refine zAm E rfl rfl rfl rfl rfl hb114 rfl dZ (fun w h => zDk E rfl rfl) ?_; clear E a; intro a E
          refine zAj E (t := 117) rfl (fun hb117 => ?_) (fun hb117 => ?_)
          ·have hb117n := hb117; replace hb117n := Nrm.nrm hb117n
           refine zAm E rfl rfl rfl rfl rfl hb117 rfl dZ (fun w h => by first | exact zAc (q := 7) E rfl rfl rfl | exact zAd (q := 7) E rfl rfl rfl) ?_; clear E a; intro a E
           refine zAm E rfl rfl rfl rfl rfl hb117 rfl dZ (fun w h => by first | exact zFq E rfl rfl rfl (h.one mZ) rfl | exact zBd E rfl rfl rfl (by assumption)) ?_; clear E a; intro a E
           refine zAm E rfl rfl rfl rfl rfl hb117 rfl dZ (fun w h => zDk E rfl rfl) ?_; clear E a; intro a E
           refine zAm E rfl rfl rfl rfl rfl hb117 rfl dZ (fun w h => zCv E rfl rfl rfl (by first | exact zFc (y := 1) oZ oZ | exact w_in oZ | exact zBb oZ | exact rfl)) ?_; clear E a; intro a E
           refine zAm E rfl rfl rfl rfl rfl hb117 rfl dZ (fun w h => by first | exact zAw E rfl rfl rfl rfl rfl rfl oZ | exact zBe E rfl rfl rfl rfl rfl rfl oZ | exact zAu E rfl rfl rfl rfl rfl rfl oZ) ?_; clear E a; intro a E
           refine zAm E rfl rfl rfl rfl rfl hb117 rfl dZ (fun w h => by first | exact zAc (q := 0) E rfl rfl rfl | exact zAd (q := 0) E rfl rfl rfl) ?_; clear E a; intro a E
           refine zAm E rfl rfl rfl rfl rfl hb117 rfl dZ (fun w h => zBd E rfl rfl rfl (hp.elem (lay := Prp.lay) Prp.lay_len (h.at mZ) (i := i - 1) oZ 0 _ rfl)) ?_; clear E a; intro a E
           refine zAm E rfl rfl rfl rfl rfl hb117 rfl dZ (fun w h => by first | exact zAc (q := 0) E rfl rfl rfl | exact zAd (q := 0) E rfl rfl rfl) ?_; clear E a; intro a E
           refine zAm E rfl rfl rfl rfl rfl hb117 rfl dZ (fun w h => by first | exact zFq E rfl rfl rfl (h.one mZ) rfl | exact zBd E rfl rfl rfl (by assumption)) ?_; clear E a; intro a E
           refine zAm E rfl rfl rfl rfl rfl hb117 rfl dZ (fun w h => zHz E rfl rfl rfl) ?_; clear E a; intro a E
           refine zAm E rfl rfl rfl rfl rfl hb114 rfl dZ (fun w h => zAf E rfl rfl hb117 rfl) ?_; clear E a; intro a E
           refine zm E rfl (fun w h => zAe E rfl rfl hb114 rfl) ?_; clear E a; intro a E
           refine zBi ?_
           refine zAk ?_
           refine ⟨_, ?_, S, E.keep (kE4 rfl rfl rfl rfl)⟩
           clear S E hcl hR hs H hz1 hz2 hz3 hcells
           unfold zHf
           rw [← hpe]
           first
            | (simp_all; done)
            | (clear hT hp hpk; simp_all <;> (intro q1 q2 q3; exfalso; rcases hb114 with (e | e) | e; subst e; simp at q1; omega; rw [e] at q3; cases q3))
          ·have hb117n := hb117; replace hb117n := Nrm.nrm hb117n
           iterate 10 (refine zBl E rfl rfl rfl rfl rfl hb117 rfl dZ ?_; clear E a; intro a E)
           refine zAm E rfl rfl rfl rfl rfl hb114 rfl dZ (fun w h => zAe E rfl rfl hb117 rfl) ?_; clear E a; intro a E
           refine zm E rfl (fun w h => zAe E rfl rfl hb114 rfl) ?_; clear E a; intro a E
           refine zBi ?_
           refine zAk ?_
           refine ⟨_, ?_, S, E.keep (kE4 rfl rfl rfl rfl)⟩
           clear S E hcl hR hs H hz1 hz2 hz3 hcells
           unfold zHf
           rw [← hpe]
           first
            | (simp_all; done)
            | (clear hT hp hpk; simp_all <;> (intro q1 q2 q3; exfalso; rcases hb114 with (e | e) | e; subst e; simp at q1; omega; rw [e] at q3; cases q3))
       ·clear E S a; intro a w J; obtain ⟨z, hz, S, E⟩ := J
        refine zAb hK ?_; clear hK K
        refine zAs E rfl (fun hb => ?_) (fun hb => ?_)
        ·replace hb := Nrm.nrm hb
         refine wp_seq_k ?_; intro K hK
         refine zAa ?_
         refine zd E ?_; clear E a; intro a E
         refine wpList_nil ?_
         refine zAb hK ?_; clear hK K
         refine wp_ret ?_
         refine zBw ?_
         refine zAn ?_; clear hK K
         refine zAn ?_
         refine zBw ?_
         refine zAn ?_; clear hK K
         refine ret1 E rfl rfl ?_
         exact ⟨_, rfl, by rw [beg_no fun q => hz.1 hb (((zGr _).1 q.2.2.2.2.2.2).2 i hil)], S.tail2.tr⟩
        ·replace hb := Nrm.nrm hb
         refine wp_skip ?_
         refine zAr ?_
         refine zAb hK ?_; clear hK K
         refine zAa ?_
         refine zd E ?_; clear E a; intro a E
         refine zp E (zBc E rfl rfl rfl (by first | exact zBq (y := 1) oZ | exact w_in oZ | exact zBb oZ | exact rfl)) ?_; clear E a; intro a E
         refine zd E ?_; clear E a; intro a E
         refine wpList_nil ?_
         refine zAy ?_
         exact ⟨_, by omega, i + 1, rfl, by omega, zFw hpk hil (Classical.byContradiction fun q => by rw [hz.2 q] at hb; cases hb), S.tail, E.keep (kE3 rfl rfl rfl)⟩
      ·replace hb := Nrm.nrm hb
       refine wp_exit ?_
       refine zAp ?_; clear hK K
       refine zAp ?_
       refine zBr ?_
       refine zAb hK ?_; clear hK K
       refine wp_seq_k ?_; intro K hK
       refine zAa ?_
       refine zd E ?_; clear E a; intro a E
       refine wpList_nil ?_
       refine zAb hK ?_; clear hK K
       refine wp_ret ?_
       refine ret1 E rfl rfl ?_
       obtain ⟨q1, q2, q3, q4, q5⟩ := hok
       obtain ⟨g1, g2, g3⟩ := hz1.1 q3
       refine ⟨_, rfl, ?_, S.tail.tr⟩
       rw [(zDn r).2 ⟨by rw [← hnm]; exact q1, g1, g2, g3, hz2.1 q4, q2, (zGr _).2 ⟨q5, fun k hk => hpk k hk oZ⟩⟩]
omit hR hs hC H in
theorem zKz {m : Nat} (h : zCa (zDb r) = true ↔ zFi r m = true) : zCa (zDb r) = zFi r m := by rw [Bool.eq_iff_iff]; exact h
omit hR hs hC H in
theorem ck1 (h : r.kind = 1) : ckB r = (zFi r 3 && (zEw r.name && decide (1 ≤ r.many ∧ r.many ≤ 120))) := by
 have e : zCa (zDb r) = zFi r 3 := zKz (by
  rw [bare1 h]
  simp [zCa, zFi, zHu, msk, zIy, List.range, List.range.loop, Nat.testBit, Nat.shiftRight_eq_div_pow, List.length_eq_zero_iff]
  clear h; grind)
 simp only [ckB, inK, mayK, h, e, may1]; simp [Bool.and_comm]
omit hR hs hC H in
theorem ck2 (h : r.kind = 2) : ckB r = (zFi r 253 && begB r) := by
 have e : zCa (zDb r) = zFi r 253 := zKz (by
  rw [bare2 h]
  simp [zCa, zFi, zHu, msk, zIy, List.range, List.range.loop, Nat.testBit, Nat.shiftRight_eq_div_pow, List.length_eq_zero_iff]
  clear h; grind)
 simp only [ckB, inK, mayK, h, e]; simp [Bool.and_comm]
omit hR hs hC H in
theorem ck3 (h : r.kind = 3) : ckB r = (zFi r 1024 && risB r.keep 1 1048576) := by
 have e : zCa (zDb r) = zFi r 1024 := zKz (by
  rw [bare3 h]
  simp [zCa, zFi, zHu, msk, zIy, List.range, List.range.loop, Nat.testBit, Nat.shiftRight_eq_div_pow, List.length_eq_zero_iff]
  clear h; grind)
 simp only [ckB, inK, mayK, h, e, may3]; simp [Bool.and_comm]
omit hR hs hC H in
theorem ck4 (h : r.kind = 4) : ckB r = (zFi r 1280 && may4 r) := by
 have e : zCa (zDb r) = zFi r 1280 := zKz (by
  rw [bare4 h]
  simp [zCa, zFi, zHu, msk, zIy, List.range, List.range.loop, Nat.testBit, Nat.shiftRight_eq_div_pow, List.length_eq_zero_iff]
  clear h; grind)
 simp only [ckB, inK, mayK, h, e]; simp [Bool.and_comm]
omit hR hs hC H in
theorem ck5 (h : r.kind = 5) : ckB r = (zFi r 2816 && may5 r) := by
 have e : zCa (zDb r) = zFi r 2816 := zKz (by
  rw [bare5 h]
  simp [zCa, zFi, zHu, msk, zIy, List.range, List.range.loop, Nat.testBit, Nat.shiftRight_eq_div_pow, List.length_eq_zero_iff]
  clear h; grind)
 simp only [ckB, inK, mayK, h, e]; simp [Bool.and_comm]
omit hR hs hC H in
theorem ck6 (h : r.kind = 6 ∨ r.kind = 7) : ckB r = (zFi r 2 && may6 r) := by
 have e : zCa (zDb r) = zFi r 2 := zKz (by
  rw [bare6 oZ oZ oZ oZ oZ]
  simp [zCa, zFi, zHu, msk, zIy, List.range, List.range.loop, Nat.testBit, Nat.shiftRight_eq_div_pow, List.length_eq_zero_iff]
  clear h; grind)
 rcases h with h | h <;> simp only [ckB, inK, mayK, h, e] <;> simp [Bool.and_comm]
omit hR hs hC H in
theorem ck0 (h : ¬ inK r.kind) : ckB r = false := by simp [ckB, h]
end
end Go.Proofs.YtbogecljkaimdaaGreatDoor
namespace Go.Proofs.YtbogecljkaimdaaGreatDoor
open Go.Sl
set_option maxRecDepth 10000
section
variable {C : zAl} {r : Rec} {pv kv dv : Value} (hR : RecR C r pv kv dv) (hs : Sml r) {As : List zAl} (hC : C ∈ As) (w0 : World) (H : Hp w0 As)
include hR hs hC H
set_option maxHeartbeats 1000000 in
theorem ucheck_ret : Ret Tryz.prog 15 #[.agg (r.cells pv kv dv).toArray] w0 fun u w' => u = .int .i64 (ckE r) ∧ Trs w0 w' As As := by
 have S := St.begin H
 have h1 := hs.name
 have h4 := hs.keep
 have h5 := hs.data
 obtain ⟨ad1, c1, rfl⟩ := hR.pr.slice
 obtain ⟨ad2, c2, rfl⟩ := hR.kr.slice
 obtain ⟨ad3, c3, rfl⟩ := hR.dr.slice
 refine zCd 115 Tryz.func15 rfl rfl dZ ?_; intro a E
 refine wp_seq_k ?_; intro K hK
 refine zAa ?_
 refine zAg rfl (zBx E S rfl rfl dZ rfl rfl ?_); clear E S a; intro a w b1 E S
 refine zd E ?_; clear E a; intro a E
 refine wpList_nil ?_
 refine zAb hK ?_; clear hK K
 refine wp_seq_k ?_; intro K hK
 refine zAa ?_
 refine zd E ?_; clear E a; intro a E
 refine wpList_nil ?_
 refine zAb hK ?_; clear hK K
 refine wp_seq_k ?_; intro K hK
 refine zDd (fun (a : Act) (w' : World) => ∃ z, z = decide (1 ≤ r.object ∧ r.object ≤ 1048576) ∧ St w0 As w' ([(b1, cel (r.cells (.slice ad1 r.props.length c1) (.slice ad2 r.keep.length c2) (.slice ad3 r.data.length c3)) 26)] :: As) ∧ Fr a 115 [(1, ptr b1), (2, .int .i64 0), (3, .bool false), (4, .bool z)]) ?_ ?_
 ·skip
  refine zAa ?_
  refine zp E (by first | exact zAc (q := 8) E rfl rfl rfl | exact zAd (q := 8) E rfl rfl rfl) ?_; clear E a; intro a E
  iterate 3 (refine zd E ?_; clear E a; intro a E)
  refine zAj E (t := 8) rfl (fun hb8 => ?_) (fun hb8 => ?_)
  ·have hb8n := hb8; replace hb8n := Nrm.nrm hb8n
   refine zy E hb8 (by first | exact zAc (q := 8) E rfl rfl rfl | exact zAd (q := 8) E rfl rfl rfl) ?_; clear E a; intro a E
   iterate 2 (refine zyd E hb8 ?_; clear E a; intro a E)
   refine zp E (zAf E rfl rfl hb8 rfl) ?_; clear E a; intro a E
   refine zd E ?_; clear E a; intro a E
   refine wpList_nil ?_
   refine zAk ?_
   exact ⟨_, by rw [Bool.eq_iff_iff]; simp only [decide_eq_true_eq, Bool.false_eq_true, false_iff]; omega, S, E.keep (kE4 rfl rfl rfl rfl)⟩
  ·have hb8n := hb8; replace hb8n := Nrm.nrm hb8n
   iterate 3 (refine zn E hb8 ?_; clear E a; intro a E)
   refine zp E (zAe E rfl rfl hb8 rfl) ?_; clear E a; intro a E
   refine zd E ?_; clear E a; intro a E
   refine wpList_nil ?_
   refine zAk ?_
   exact ⟨_, by rw [Bool.eq_iff_iff]; simp only [decide_eq_true_eq, Bool.false_eq_true, false_iff]; omega, S, E.keep (kE4 rfl rfl rfl rfl)⟩
 ·clear E S a; intro a w J; obtain ⟨z0, hz0, S, E⟩ := J
  refine zAb hK ?_; clear hK K
  iterate 2 (refine wp_seq_k ?_; intro K hK)
  refine zAa ?_
  refine zp E (by first | exact zAc (q := 0) E rfl rfl rfl | exact zAd (q := 0) E rfl rfl rfl) ?_; clear E a; intro a E
  refine zd E ?_; clear E a; intro a E
  refine wpList_nil ?_
  refine zAb hK ?_; clear hK K
  refine zDd (fun (a : Act) (w' : World) => ∃ z, z = ckB r ∧ St w0 As w' ([(b1, cel (r.cells (.slice ad1 r.props.length c1) (.slice ad2 r.keep.length c2) (.slice ad3 r.data.length c3)) 26)] :: As) ∧ Fr a 115 [(1, ptr b1), (2, .int .i64 0), (3, .bool z)]) ?_ ?_
  ·refine wp_block ?_
   refine wp_seq_k ?_; intro K hK
   refine zAa ?_
   iterate 2 (refine zd E ?_; clear E a; intro a E)
   refine wpList_nil ?_
   refine zAb hK ?_; clear hK K
   refine zAs E rfl (fun hb => ?_) (fun hb => ?_)
   ·replace hb := Nrm.nrm hb
    have hk1 := hb
    refine zAa ?_
    refine zp E (zAz (vs := [_, _, _, _, _, _, _, _, _, _, _, _, _]) E rfl rfl rfl (S.get pZ) rfl rfl) ?_; clear E a; intro a E
    refine zAh E rfl rfl dZ rfl Tryz.func33 rfl yZ rfl (zFz hR hs _ S.hp 3 dZ dZ) ?_
    rintro v18 w ⟨rfl, hT⟩; clear E a; intro a E
    have S := S.all hT
    refine zd E ?_; clear E a; intro a E
    refine zAj E (t := 19) rfl (fun hb19 => ?_) (fun hb19 => ?_)
    ·have hb19n := hb19; replace hb19n := Nrm.nrm hb19n
     refine zy E hb19 (by first | exact zAc (q := 1) E rfl rfl rfl | exact zAd (q := 1) E rfl rfl rfl) ?_; clear E a; intro a E
     refine zyd E hb19 ?_; clear E a; intro a E
     refine zBk E rfl rfl rfl rfl hb19 ?_; refine zBy E rfl dZ rfl Tryz.func34 rfl yZ rfl (zKj r.name oZ _ _ S.hp) ?_
     rintro v22 w ⟨rfl, hT⟩; clear E a; intro a E
     have S := S.all hT
     refine zp E (zAf E rfl rfl hb19 rfl) ?_; clear E a; intro a E
     refine zd E ?_; clear E a; intro a E
     refine zAj E (t := 24) rfl (fun hb24 => ?_) (fun hb24 => ?_)
     ·have hb24n := hb24; replace hb24n := Nrm.nrm hb24n
      refine zy E hb24 (by first | exact zAc (q := 10) E rfl rfl rfl | exact zAd (q := 10) E rfl rfl rfl) ?_; clear E a; intro a E
      iterate 2 (refine zyd E hb24 ?_; clear E a; intro a E)
      refine zp E (zAf E rfl rfl hb24 rfl) ?_; clear E a; intro a E
      refine zd E ?_; clear E a; intro a E
      refine zAj E (t := 29) rfl (fun hb29 => ?_) (fun hb29 => ?_)
      ·have hb29n := hb29; replace hb29n := Nrm.nrm hb29n
       refine zy E hb29 (by first | exact zAc (q := 10) E rfl rfl rfl | exact zAd (q := 10) E rfl rfl rfl) ?_; clear E a; intro a E
       iterate 2 (refine zyd E hb29 ?_; clear E a; intro a E)
       refine zp E (zAf E rfl rfl hb29 rfl) ?_; clear E a; intro a E
       refine zd E ?_; clear E a; intro a E
       refine wpList_nil ?_
       refine zAr ?_
       refine zAk ?_
       refine ⟨_, ?_, S, E.keep (kE3 rfl rfl rfl)⟩
       first
        | (rw [ck1 hk1]; clear hT E S; clear hR hs hC H; simp_all <;> omega)
        | (rw [ck2 hk2]; clear hT E S; clear hR hs hC H; simp_all)
        | (rw [ck3 hk3]; clear hT E S; clear hR hs hC H; simp_all)
        | (rw [ck4 hk4]; simp only [may4]; clear hT E S; clear hR hs hC H; simp_all <;> omega)
        | (rw [ck5 hk5]; simp only [may5]; clear hT E S; clear hR hs hC H; simp_all <;> omega)
        | (rw [ck6 hk6]; simp only [may6]; clear hT E S; clear hR hs hC H; simp_all <;> omega)
        | (rw [ck0 (by unfold inK; omega)])
      ·have hb29n := hb29; replace hb29n := Nrm.nrm hb29n
       iterate 3 (refine zn E hb29 ?_; clear E a; intro a E)
       refine zp E (zAe E rfl rfl hb29 rfl) ?_; clear E a; intro a E
       refine zd E ?_; clear E a; intro a E
       refine wpList_nil ?_
       refine zAr ?_
       refine zAk ?_
       refine ⟨_, ?_, S, E.keep (kE3 rfl rfl rfl)⟩
       first
        | (rw [ck1 hk1]; clear hT E S; clear hR hs hC H; simp_all <;> omega)
        | (rw [ck2 hk2]; clear hT E S; clear hR hs hC H; simp_all)
        | (rw [ck3 hk3]; clear hT E S; clear hR hs hC H; simp_all)
        | (rw [ck4 hk4]; simp only [may4]; clear hT E S; clear hR hs hC H; simp_all <;> omega)
        | (rw [ck5 hk5]; simp only [may5]; clear hT E S; clear hR hs hC H; simp_all <;> omega)
        | (rw [ck6 hk6]; simp only [may6]; clear hT E S; clear hR hs hC H; simp_all <;> omega)
        | (rw [ck0 (by unfold inK; omega)])
     ·have hb24n := hb24; replace hb24n := Nrm.nrm hb24n
      iterate 3 (refine zn E hb24 ?_; clear E a; intro a E)
      refine zp E (zAe E rfl rfl hb24 rfl) ?_; clear E a; intro a E
      refine zd E ?_; clear E a; intro a E
      iterate 3 (refine zn E rfl ?_; clear E a; intro a E)
      refine zp E (zAe E rfl rfl rfl rfl) ?_; clear E a; intro a E
      refine zd E ?_; clear E a; intro a E
      refine wpList_nil ?_
      refine zAr ?_
      refine zAk ?_
      refine ⟨_, ?_, S, E.keep (kE3 rfl rfl rfl)⟩
      first
       | (rw [ck1 hk1]; clear hT E S; clear hR hs hC H; simp_all <;> omega)
       | (rw [ck2 hk2]; clear hT E S; clear hR hs hC H; simp_all)
       | (rw [ck3 hk3]; clear hT E S; clear hR hs hC H; simp_all)
       | (rw [ck4 hk4]; simp only [may4]; clear hT E S; clear hR hs hC H; simp_all <;> omega)
       | (rw [ck5 hk5]; simp only [may5]; clear hT E S; clear hR hs hC H; simp_all <;> omega)
       | (rw [ck6 hk6]; simp only [may6]; clear hT E S; clear hR hs hC H; simp_all <;> omega)
       | (rw [ck0 (by unfold inK; omega)])
    ·have hb19n := hb19; replace hb19n := Nrm.nrm hb19n
     iterate 3 (refine zn E hb19 ?_; clear E a; intro a E)
     refine zp E (zAe E rfl rfl hb19 rfl) ?_; clear E a; intro a E
     refine zd E ?_; clear E a; intro a E
     iterate 3 (refine zn E rfl ?_; clear E a; intro a E)
     refine zp E (zAe E rfl rfl rfl rfl) ?_; clear E a; intro a E
     refine zd E ?_; clear E a; intro a E
     iterate 3 (refine zn E rfl ?_; clear E a; intro a E)
     refine zp E (zAe E rfl rfl rfl rfl) ?_; clear E a; intro a E
     refine zd E ?_; clear E a; intro a E
     refine wpList_nil ?_
     refine zAr ?_
     refine zAk ?_
     refine ⟨_, ?_, S, E.keep (kE3 rfl rfl rfl)⟩
     first
      | (rw [ck1 hk1]; clear hT E S; clear hR hs hC H; simp_all <;> omega)
      | (rw [ck2 hk2]; clear hT E S; clear hR hs hC H; simp_all)
      | (rw [ck3 hk3]; clear hT E S; clear hR hs hC H; simp_all)
      | (rw [ck4 hk4]; simp only [may4]; clear hT E S; clear hR hs hC H; simp_all <;> omega)
      | (rw [ck5 hk5]; simp only [may5]; clear hT E S; clear hR hs hC H; simp_all <;> omega)
      | (rw [ck6 hk6]; simp only [may6]; clear hT E S; clear hR hs hC H; simp_all <;> omega)
      | (rw [ck0 (by unfold inK; omega)])
   ·replace hb := Nrm.nrm hb
    have hk1 := hb
    refine wp_seq_k ?_; intro K hK
    refine zAa ?_
    iterate 2 (refine zd E ?_; clear E a; intro a E)
    refine wpList_nil ?_
    refine zAb hK ?_; clear hK K
    refine zAs E rfl (fun hb => ?_) (fun hb => ?_)
    ·replace hb := Nrm.nrm hb
     have hk2 := hb
     refine zAa ?_
     refine zp E (zAz (vs := [_, _, _, _, _, _, _, _, _, _, _, _, _]) E rfl rfl rfl (S.get pZ) rfl rfl) ?_; clear E a; intro a E
     refine zAh E rfl rfl dZ rfl Tryz.func33 rfl yZ rfl (zFz hR hs _ S.hp 253 dZ dZ) ?_
     rintro v37 w ⟨rfl, hT⟩; clear E a; intro a E
     have S := S.all hT
     refine zd E ?_; clear E a; intro a E
     refine zAj E (t := 38) rfl (fun hb38 => ?_) (fun hb38 => ?_)
     ·have hb38n := hb38; replace hb38n := Nrm.nrm hb38n
      refine zy E hb38 (zAz (vs := [_, _, _, _, _, _, _, _, _, _, _, _, _]) E rfl rfl rfl (S.get pZ) rfl rfl) ?_; clear E a; intro a E
      refine zBk E rfl rfl rfl rfl hb38 ?_; refine zBy E rfl dZ rfl Tryz.func35 rfl yZ rfl (ubegin_ret hR hs (List.mem_cons_of_mem _ hC) _ S.hp) ?_
      rintro v40 w ⟨rfl, hT⟩; clear E a; intro a E
      have S := S.all hT
      refine zp E (zAf E rfl rfl hb38 rfl) ?_; clear E a; intro a E
      refine zd E ?_; clear E a; intro a E
      refine wpList_nil ?_
      refine zAr ?_
      refine zAk ?_
      refine ⟨_, ?_, S, E.keep (kE3 rfl rfl rfl)⟩
      first
       | (rw [ck1 hk1]; clear hT E S; clear hR hs hC H; simp_all <;> omega)
       | (rw [ck2 hk2]; clear hT E S; clear hR hs hC H; simp_all)
       | (rw [ck3 hk3]; clear hT E S; clear hR hs hC H; simp_all)
       | (rw [ck4 hk4]; simp only [may4]; clear hT E S; clear hR hs hC H; simp_all <;> omega)
       | (rw [ck5 hk5]; simp only [may5]; clear hT E S; clear hR hs hC H; simp_all <;> omega)
       | (rw [ck6 hk6]; simp only [may6]; clear hT E S; clear hR hs hC H; simp_all <;> omega)
       | (rw [ck0 (by unfold inK; omega)])
     ·have hb38n := hb38; replace hb38n := Nrm.nrm hb38n
      iterate 2 (refine zn E hb38 ?_; clear E a; intro a E)
      refine zp E (zAe E rfl rfl hb38 rfl) ?_; clear E a; intro a E
      refine zd E ?_; clear E a; intro a E
      refine wpList_nil ?_
      refine zAr ?_
      refine zAk ?_
      refine ⟨_, ?_, S, E.keep (kE3 rfl rfl rfl)⟩
      first
       | (rw [ck1 hk1]; clear hT E S; clear hR hs hC H; simp_all <;> omega)
       | (rw [ck2 hk2]; clear hT E S; clear hR hs hC H; simp_all)
       | (rw [ck3 hk3]; clear hT E S; clear hR hs hC H; simp_all)
       | (rw [ck4 hk4]; simp only [may4]; clear hT E S; clear hR hs hC H; simp_all <;> omega)
       | (rw [ck5 hk5]; simp only [may5]; clear hT E S; clear hR hs hC H; simp_all <;> omega)
       | (rw [ck6 hk6]; simp only [may6]; clear hT E S; clear hR hs hC H; simp_all <;> omega)
       | (rw [ck0 (by unfold inK; omega)])
    ·replace hb := Nrm.nrm hb
     have hk2 := hb
     refine wp_seq_k ?_; intro K hK
     refine zAa ?_
     iterate 2 (refine zd E ?_; clear E a; intro a E)
     refine wpList_nil ?_
     refine zAb hK ?_; clear hK K
     refine zAs E rfl (fun hb => ?_) (fun hb => ?_)
     ·replace hb := Nrm.nrm hb
      have hk3 := hb
      refine zAa ?_
      refine zp E (zAz (vs := [_, _, _, _, _, _, _, _, _, _, _, _, _]) E rfl rfl rfl (S.get pZ) rfl rfl) ?_; clear E a; intro a E
      refine zAh E rfl rfl dZ rfl Tryz.func33 rfl yZ rfl (zFz hR hs _ S.hp 1024 dZ dZ) ?_
      rintro v45 w ⟨rfl, hT⟩; clear E a; intro a E
      have S := S.all hT
      refine zd E ?_; clear E a; intro a E
      refine zAj E (t := 46) rfl (fun hb46 => ?_) (fun hb46 => ?_)
      ·have hb46n := hb46; replace hb46n := Nrm.nrm hb46n
       refine zy E hb46 (by first | exact zAc (q := 11) E rfl rfl rfl | exact zAd (q := 11) E rfl rfl rfl) ?_; clear E a; intro a E
       refine zyd E hb46 ?_; clear E a; intro a E
       refine zBk E rfl rfl rfl rfl hb46 ?_; refine zBy E rfl dZ rfl Tryz.func36 rfl yZ rfl (uris_ret C _ r.keep hR.kr oZ 1 1048576 _ (List.mem_cons_of_mem _ hC) _ S.hp) ?_
       rintro v49 w ⟨rfl, hT⟩; clear E a; intro a E
       have S := S.all hT
       refine zp E (zAf E rfl rfl hb46 rfl) ?_; clear E a; intro a E
       refine zd E ?_; clear E a; intro a E
       refine wpList_nil ?_
       refine zAr ?_
       refine zAk ?_
       refine ⟨_, ?_, S, E.keep (kE3 rfl rfl rfl)⟩
       first
        | (rw [ck1 hk1]; clear hT E S; clear hR hs hC H; simp_all <;> omega)
        | (rw [ck2 hk2]; clear hT E S; clear hR hs hC H; simp_all)
        | (rw [ck3 hk3]; clear hT E S; clear hR hs hC H; simp_all)
        | (rw [ck4 hk4]; simp only [may4]; clear hT E S; clear hR hs hC H; simp_all <;> omega)
        | (rw [ck5 hk5]; simp only [may5]; clear hT E S; clear hR hs hC H; simp_all <;> omega)
        | (rw [ck6 hk6]; simp only [may6]; clear hT E S; clear hR hs hC H; simp_all <;> omega)
        | (rw [ck0 (by unfold inK; omega)])
      ·have hb46n := hb46; replace hb46n := Nrm.nrm hb46n
       iterate 3 (refine zn E hb46 ?_; clear E a; intro a E)
       refine zp E (zAe E rfl rfl hb46 rfl) ?_; clear E a; intro a E
       refine zd E ?_; clear E a; intro a E
       refine wpList_nil ?_
       refine zAr ?_
       refine zAk ?_
       refine ⟨_, ?_, S, E.keep (kE3 rfl rfl rfl)⟩
       first
        | (rw [ck1 hk1]; clear hT E S; clear hR hs hC H; simp_all <;> omega)
        | (rw [ck2 hk2]; clear hT E S; clear hR hs hC H; simp_all)
        | (rw [ck3 hk3]; clear hT E S; clear hR hs hC H; simp_all)
        | (rw [ck4 hk4]; simp only [may4]; clear hT E S; clear hR hs hC H; simp_all <;> omega)
        | (rw [ck5 hk5]; simp only [may5]; clear hT E S; clear hR hs hC H; simp_all <;> omega)
        | (rw [ck6 hk6]; simp only [may6]; clear hT E S; clear hR hs hC H; simp_all <;> omega)
        | (rw [ck0 (by unfold inK; omega)])
     ·replace hb := Nrm.nrm hb
      have hk3 := hb
      refine wp_seq_k ?_; intro K hK
      refine zAa ?_
      iterate 2 (refine zd E ?_; clear E a; intro a E)
      refine wpList_nil ?_
      refine zAb hK ?_; clear hK K
      refine zAs E rfl (fun hb => ?_) (fun hb => ?_)
      ·replace hb := Nrm.nrm hb
       have hk4 := hb
       refine zAa ?_
       refine zp E (zAz (vs := [_, _, _, _, _, _, _, _, _, _, _, _, _]) E rfl rfl rfl (S.get pZ) rfl rfl) ?_; clear E a; intro a E
       refine zAh E rfl rfl dZ rfl Tryz.func33 rfl yZ rfl (zFz hR hs _ S.hp 1280 dZ dZ) ?_
       rintro v54 w ⟨rfl, hT⟩; clear E a; intro a E
       have S := S.all hT
       refine zd E ?_; clear E a; intro a E
       refine zAj E (t := 55) rfl (fun hb55 => ?_) (fun hb55 => ?_)
       ·have hb55n := hb55; replace hb55n := Nrm.nrm hb55n
        refine zyd E hb55 ?_; clear E a; intro a E
        refine zp E (zAf E rfl rfl hb55 rfl) ?_; clear E a; intro a E
        refine zd E ?_; clear E a; intro a E
        refine zAj E (t := 58) rfl (fun hb58 => ?_) (fun hb58 => ?_)
        ·have hb58n := hb58; replace hb58n := Nrm.nrm hb58n
         refine zy E hb58 (by first | exact zAc (q := 11) E rfl rfl rfl | exact zAd (q := 11) E rfl rfl rfl) ?_; clear E a; intro a E
         iterate 3 (refine zyd E hb58 ?_; clear E a; intro a E)
         refine zp E (zAf E rfl rfl hb58 rfl) ?_; clear E a; intro a E
         refine zd E ?_; clear E a; intro a E
         refine zAj E (t := 64) rfl (fun hb64 => ?_) (fun hb64 => ?_)
         ·have hb64n := hb64; replace hb64n := Nrm.nrm hb64n
          refine zy E hb64 (by first | exact zAc (q := 11) E rfl rfl rfl | exact zAd (q := 11) E rfl rfl rfl) ?_; clear E a; intro a E
          refine zyd E hb64 ?_; clear E a; intro a E
          refine zBk E rfl rfl rfl rfl hb64 ?_; refine zBy E rfl dZ rfl Tryz.func36 rfl yZ rfl (uris_ret C _ r.keep hR.kr oZ (-1) 255 _ (List.mem_cons_of_mem _ hC) _ S.hp) ?_
          rintro v67 w ⟨rfl, hT⟩; clear E a; intro a E
          have S := S.all hT
          refine zp E (zAf E rfl rfl hb64 rfl) ?_; clear E a; intro a E
          refine zd E ?_; clear E a; intro a E
          refine wpList_nil ?_
          refine zAr ?_
          refine zAk ?_
          refine ⟨_, ?_, S, E.keep (kE3 rfl rfl rfl)⟩
          first
           | (rw [ck1 hk1]; clear hT E S; clear hR hs hC H; simp_all <;> omega)
           | (rw [ck2 hk2]; clear hT E S; clear hR hs hC H; simp_all)
           | (rw [ck3 hk3]; clear hT E S; clear hR hs hC H; simp_all)
           | (rw [ck4 hk4]; simp only [may4]; clear hT E S; clear hR hs hC H; simp_all <;> omega)
           | (rw [ck5 hk5]; simp only [may5]; clear hT E S; clear hR hs hC H; simp_all <;> omega)
           | (rw [ck6 hk6]; simp only [may6]; clear hT E S; clear hR hs hC H; simp_all <;> omega)
           | (rw [ck0 (by unfold inK; omega)])
         ·have hb64n := hb64; replace hb64n := Nrm.nrm hb64n
          iterate 3 (refine zn E hb64 ?_; clear E a; intro a E)
          refine zp E (zAe E rfl rfl hb64 rfl) ?_; clear E a; intro a E
          refine zd E ?_; clear E a; intro a E
          refine wpList_nil ?_
          refine zAr ?_
          refine zAk ?_
          refine ⟨_, ?_, S, E.keep (kE3 rfl rfl rfl)⟩
          first
           | (rw [ck1 hk1]; clear hT E S; clear hR hs hC H; simp_all <;> omega)
           | (rw [ck2 hk2]; clear hT E S; clear hR hs hC H; simp_all)
           | (rw [ck3 hk3]; clear hT E S; clear hR hs hC H; simp_all)
           | (rw [ck4 hk4]; simp only [may4]; clear hT E S; clear hR hs hC H; simp_all <;> omega)
           | (rw [ck5 hk5]; simp only [may5]; clear hT E S; clear hR hs hC H; simp_all <;> omega)
           | (rw [ck6 hk6]; simp only [may6]; clear hT E S; clear hR hs hC H; simp_all <;> omega)
           | (rw [ck0 (by unfold inK; omega)])
        ·have hb58n := hb58; replace hb58n := Nrm.nrm hb58n
         iterate 4 (refine zn E hb58 ?_; clear E a; intro a E)
         refine zp E (zAe E rfl rfl hb58 rfl) ?_; clear E a; intro a E
         refine zd E ?_; clear E a; intro a E
         iterate 3 (refine zn E rfl ?_; clear E a; intro a E)
         refine zp E (zAe E rfl rfl rfl rfl) ?_; clear E a; intro a E
         refine zd E ?_; clear E a; intro a E
         refine wpList_nil ?_
         refine zAr ?_
         refine zAk ?_
         refine ⟨_, ?_, S, E.keep (kE3 rfl rfl rfl)⟩
         first
          | (rw [ck1 hk1]; clear hT E S; clear hR hs hC H; simp_all <;> omega)
          | (rw [ck2 hk2]; clear hT E S; clear hR hs hC H; simp_all)
          | (rw [ck3 hk3]; clear hT E S; clear hR hs hC H; simp_all)
          | (rw [ck4 hk4]; simp only [may4]; clear hT E S; clear hR hs hC H; simp_all <;> omega)
          | (rw [ck5 hk5]; simp only [may5]; clear hT E S; clear hR hs hC H; simp_all <;> omega)
          | (rw [ck6 hk6]; simp only [may6]; clear hT E S; clear hR hs hC H; simp_all <;> omega)
          | (rw [ck0 (by unfold inK; omega)])
       ·have hb55n := hb55; replace hb55n := Nrm.nrm hb55n
        refine zn E hb55 ?_; clear E a; intro a E
        refine zp E (zAe E rfl rfl hb55 rfl) ?_; clear E a; intro a E
        refine zd E ?_; clear E a; intro a E
        iterate 4 (refine zn E rfl ?_; clear E a; intro a E)
        refine zp E (zAe E rfl rfl rfl rfl) ?_; clear E a; intro a E
        refine zd E ?_; clear E a; intro a E
        iterate 3 (refine zn E rfl ?_; clear E a; intro a E)
        refine zp E (zAe E rfl rfl rfl rfl) ?_; clear E a; intro a E
        refine zd E ?_; clear E a; intro a E
        refine wpList_nil ?_
        refine zAr ?_
        refine zAk ?_
        refine ⟨_, ?_, S, E.keep (kE3 rfl rfl rfl)⟩
        first
         | (rw [ck1 hk1]; clear hT E S; clear hR hs hC H; simp_all <;> omega)
         | (rw [ck2 hk2]; clear hT E S; clear hR hs hC H; simp_all)
         | (rw [ck3 hk3]; clear hT E S; clear hR hs hC H; simp_all)
         | (rw [ck4 hk4]; simp only [may4]; clear hT E S; clear hR hs hC H; simp_all <;> omega)
         | (rw [ck5 hk5]; simp only [may5]; clear hT E S; clear hR hs hC H; simp_all <;> omega)
         | (rw [ck6 hk6]; simp only [may6]; clear hT E S; clear hR hs hC H; simp_all <;> omega)
         | (rw [ck0 (by unfold inK; omega)])
      ·replace hb := Nrm.nrm hb
       have hk4 := hb
       refine wp_seq_k ?_; intro K hK
       refine zAa ?_
       iterate 2 (refine zd E ?_; clear E a; intro a E)
       refine wpList_nil ?_
       refine zAb hK ?_; clear hK K
       refine zAs E rfl (fun hb => ?_) (fun hb => ?_)
       ·replace hb := Nrm.nrm hb
        have hk5 := hb
        refine zAa ?_
        refine zp E (zAz (vs := [_, _, _, _, _, _, _, _, _, _, _, _, _]) E rfl rfl rfl (S.get pZ) rfl rfl) ?_; clear E a; intro a E
        refine zAh E rfl rfl dZ rfl Tryz.func33 rfl yZ rfl (zFz hR hs _ S.hp 2816 dZ dZ) ?_
        rintro v72 w ⟨rfl, hT⟩; clear E a; intro a E
        have S := S.all hT
        refine zd E ?_; clear E a; intro a E
        refine zAj E (t := 73) rfl (fun hb73 => ?_) (fun hb73 => ?_)
        ·have hb73n := hb73; replace hb73n := Nrm.nrm hb73n
         refine zyd E hb73 ?_; clear E a; intro a E
         refine zp E (zAf E rfl rfl hb73 rfl) ?_; clear E a; intro a E
         refine zd E ?_; clear E a; intro a E
         refine zAj E (t := 76) rfl (fun hb76 => ?_) (fun hb76 => ?_)
         ·have hb76n := hb76; replace hb76n := Nrm.nrm hb76n
          refine zy E hb76 (by first | exact zAc (q := 9) E rfl rfl rfl | exact zAd (q := 9) E rfl rfl rfl) ?_; clear E a; intro a E
          iterate 2 (refine zyd E hb76 ?_; clear E a; intro a E)
          refine zp E (zAf E rfl rfl hb76 rfl) ?_; clear E a; intro a E
          refine zd E ?_; clear E a; intro a E
          refine zAj E (t := 81) rfl (fun hb81 => ?_) (fun hb81 => ?_)
          ·have hb81n := hb81; replace hb81n := Nrm.nrm hb81n
           refine zy E hb81 (by first | exact zAc (q := 9) E rfl rfl rfl | exact zAd (q := 9) E rfl rfl rfl) ?_; clear E a; intro a E
           iterate 2 (refine zyd E hb81 ?_; clear E a; intro a E)
           refine zp E (zAf E rfl rfl hb81 rfl) ?_; clear E a; intro a E
           refine zd E ?_; clear E a; intro a E
           refine zAj E (t := 86) rfl (fun hb86 => ?_) (fun hb86 => ?_)
           ·have hb86n := hb86; replace hb86n := Nrm.nrm hb86n
            refine zy E hb86 (by first | exact zAc (q := 12) E rfl rfl rfl | exact zAd (q := 12) E rfl rfl rfl) ?_; clear E a; intro a E
            iterate 3 (refine zyd E hb86 ?_; clear E a; intro a E)
            refine zp E (zAf E rfl rfl hb86 rfl) ?_; clear E a; intro a E
            refine zd E ?_; clear E a; intro a E
            refine zAj E (t := 92) rfl (fun hb92 => ?_) (fun hb92 => ?_)
            ·have hb92n := hb92; replace hb92n := Nrm.nrm hb92n
             refine zy E hb92 (by first | exact zAc (q := 12) E rfl rfl rfl | exact zAd (q := 12) E rfl rfl rfl) ?_; clear E a; intro a E
             iterate 3 (refine zyd E hb92 ?_; clear E a; intro a E)
             refine zp E (zAf E rfl rfl hb92 rfl) ?_; clear E a; intro a E
             refine zd E ?_; clear E a; intro a E
             refine wpList_nil ?_
             refine zAr ?_
             refine zAk ?_
             refine ⟨_, ?_, S, E.keep (kE3 rfl rfl rfl)⟩
             first
              | (rw [ck1 hk1]; clear hT E S; clear hR hs hC H; simp_all <;> omega)
              | (rw [ck2 hk2]; clear hT E S; clear hR hs hC H; simp_all)
              | (rw [ck3 hk3]; clear hT E S; clear hR hs hC H; simp_all)
              | (rw [ck4 hk4]; simp only [may4]; clear hT E S; clear hR hs hC H; simp_all <;> omega)
              | (rw [ck5 hk5]; simp only [may5]; clear hT E S; clear hR hs hC H; simp_all <;> omega)
              | (rw [ck6 hk6]; simp only [may6]; clear hT E S; clear hR hs hC H; simp_all <;> omega)
              | (rw [ck0 (by unfold inK; omega)])
            ·have hb92n := hb92; replace hb92n := Nrm.nrm hb92n
             iterate 4 (refine zn E hb92 ?_; clear E a; intro a E)
             refine zp E (zAe E rfl rfl hb92 rfl) ?_; clear E a; intro a E
             refine zd E ?_; clear E a; intro a E
             refine wpList_nil ?_
             refine zAr ?_
             refine zAk ?_
             refine ⟨_, ?_, S, E.keep (kE3 rfl rfl rfl)⟩
             first
              | (rw [ck1 hk1]; clear hT E S; clear hR hs hC H; simp_all <;> omega)
              | (rw [ck2 hk2]; clear hT E S; clear hR hs hC H; simp_all)
              | (rw [ck3 hk3]; clear hT E S; clear hR hs hC H; simp_all)
              | (rw [ck4 hk4]; simp only [may4]; clear hT E S; clear hR hs hC H; simp_all <;> omega)
              | (rw [ck5 hk5]; simp only [may5]; clear hT E S; clear hR hs hC H; simp_all <;> omega)
              | (rw [ck6 hk6]; simp only [may6]; clear hT E S; clear hR hs hC H; simp_all <;> omega)
              | (rw [ck0 (by unfold inK; omega)])
           ·have hb86n := hb86; replace hb86n := Nrm.nrm hb86n
            iterate 4 (refine zn E hb86 ?_; clear E a; intro a E)
            refine zp E (zAe E rfl rfl hb86 rfl) ?_; clear E a; intro a E
            refine zd E ?_; clear E a; intro a E
            iterate 4 (refine zn E rfl ?_; clear E a; intro a E)
            refine zp E (zAe E rfl rfl rfl rfl) ?_; clear E a; intro a E
            refine zd E ?_; clear E a; intro a E
            refine wpList_nil ?_
            refine zAr ?_
            refine zAk ?_
            refine ⟨_, ?_, S, E.keep (kE3 rfl rfl rfl)⟩
            first
             | (rw [ck1 hk1]; clear hT E S; clear hR hs hC H; simp_all <;> omega)
             | (rw [ck2 hk2]; clear hT E S; clear hR hs hC H; simp_all)
             | (rw [ck3 hk3]; clear hT E S; clear hR hs hC H; simp_all)
             | (rw [ck4 hk4]; simp only [may4]; clear hT E S; clear hR hs hC H; simp_all <;> omega)
             | (rw [ck5 hk5]; simp only [may5]; clear hT E S; clear hR hs hC H; simp_all <;> omega)
             | (rw [ck6 hk6]; simp only [may6]; clear hT E S; clear hR hs hC H; simp_all <;> omega)
             | (rw [ck0 (by unfold inK; omega)])
          ·have hb81n := hb81; replace hb81n := Nrm.nrm hb81n
           iterate 3 (refine zn E hb81 ?_; clear E a; intro a E)
           refine zp E (zAe E rfl rfl hb81 rfl) ?_; clear E a; intro a E
           refine zd E ?_; clear E a; intro a E
           iterate 4 (refine zn E rfl ?_; clear E a; intro a E)
           refine zp E (zAe E rfl rfl rfl rfl) ?_; clear E a; intro a E
           refine zd E ?_; clear E a; intro a E
           iterate 4 (refine zn E rfl ?_; clear E a; intro a E)
           refine zp E (zAe E rfl rfl rfl rfl) ?_; clear E a; intro a E
           refine zd E ?_; clear E a; intro a E
           refine wpList_nil ?_
           refine zAr ?_
           refine zAk ?_
           refine ⟨_, ?_, S, E.keep (kE3 rfl rfl rfl)⟩
           first
            | (rw [ck1 hk1]; clear hT E S; clear hR hs hC H; simp_all <;> omega)
            | (rw [ck2 hk2]; clear hT E S; clear hR hs hC H; simp_all)
            | (rw [ck3 hk3]; clear hT E S; clear hR hs hC H; simp_all)
            | (rw [ck4 hk4]; simp only [may4]; clear hT E S; clear hR hs hC H; simp_all <;> omega)
            | (rw [ck5 hk5]; simp only [may5]; clear hT E S; clear hR hs hC H; simp_all <;> omega)
            | (rw [ck6 hk6]; simp only [may6]; clear hT E S; clear hR hs hC H; simp_all <;> omega)
            | (rw [ck0 (by unfold inK; omega)])
         ·have hb76n := hb76; replace hb76n := Nrm.nrm hb76n
          iterate 3 (refine zn E hb76 ?_; clear E a; intro a E)
          refine zp E (zAe E rfl rfl hb76 rfl) ?_; clear E a; intro a E
          refine zd E ?_; clear E a; intro a E
          iterate 3 (refine zn E rfl ?_; clear E a; intro a E)
          refine zp E (zAe E rfl rfl rfl rfl) ?_; clear E a; intro a E
          refine zd E ?_; clear E a; intro a E
          iterate 4 (refine zn E rfl ?_; clear E a; intro a E)
          refine zp E (zAe E rfl rfl rfl rfl) ?_; clear E a; intro a E
          refine zd E ?_; clear E a; intro a E
          iterate 4 (refine zn E rfl ?_; clear E a; intro a E)
          refine zp E (zAe E rfl rfl rfl rfl) ?_; clear E a; intro a E
          refine zd E ?_; clear E a; intro a E
          refine wpList_nil ?_
          refine zAr ?_
          refine zAk ?_
          refine ⟨_, ?_, S, E.keep (kE3 rfl rfl rfl)⟩
          first
           | (rw [ck1 hk1]; clear hT E S; clear hR hs hC H; simp_all <;> omega)
           | (rw [ck2 hk2]; clear hT E S; clear hR hs hC H; simp_all)
           | (rw [ck3 hk3]; clear hT E S; clear hR hs hC H; simp_all)
           | (rw [ck4 hk4]; simp only [may4]; clear hT E S; clear hR hs hC H; simp_all <;> omega)
           | (rw [ck5 hk5]; simp only [may5]; clear hT E S; clear hR hs hC H; simp_all <;> omega)
           | (rw [ck6 hk6]; simp only [may6]; clear hT E S; clear hR hs hC H; simp_all <;> omega)
           | (rw [ck0 (by unfold inK; omega)])
        ·have hb73n := hb73; replace hb73n := Nrm.nrm hb73n
         refine zn E hb73 ?_; clear E a; intro a E
         refine zp E (zAe E rfl rfl hb73 rfl) ?_; clear E a; intro a E
         refine zd E ?_; clear E a; intro a E
         iterate 3 (refine zn E rfl ?_; clear E a; intro a E)
         refine zp E (zAe E rfl rfl rfl rfl) ?_; clear E a; intro a E
         refine zd E ?_; clear E a; intro a E
         iterate 3 (refine zn E rfl ?_; clear E a; intro a E)
         refine zp E (zAe E rfl rfl rfl rfl) ?_; clear E a; intro a E
         refine zd E ?_; clear E a; intro a E
         iterate 4 (refine zn E rfl ?_; clear E a; intro a E)
         refine zp E (zAe E rfl rfl rfl rfl) ?_; clear E a; intro a E
         refine zd E ?_; clear E a; intro a E
         iterate 4 (refine zn E rfl ?_; clear E a; intro a E)
         refine zp E (zAe E rfl rfl rfl rfl) ?_; clear E a; intro a E
         refine zd E ?_; clear E a; intro a E
         refine wpList_nil ?_
         refine zAr ?_
         refine zAk ?_
         refine ⟨_, ?_, S, E.keep (kE3 rfl rfl rfl)⟩
         first
          | (rw [ck1 hk1]; clear hT E S; clear hR hs hC H; simp_all <;> omega)
          | (rw [ck2 hk2]; clear hT E S; clear hR hs hC H; simp_all)
          | (rw [ck3 hk3]; clear hT E S; clear hR hs hC H; simp_all)
          | (rw [ck4 hk4]; simp only [may4]; clear hT E S; clear hR hs hC H; simp_all <;> omega)
          | (rw [ck5 hk5]; simp only [may5]; clear hT E S; clear hR hs hC H; simp_all <;> omega)
          | (rw [ck6 hk6]; simp only [may6]; clear hT E S; clear hR hs hC H; simp_all <;> omega)
          | (rw [ck0 (by unfold inK; omega)])
       ·replace hb := Nrm.nrm hb
        have hk5 := hb
        iterate 2 (refine wp_seq_k ?_; intro K hK)
        refine zAa ?_
        iterate 2 (refine zd E ?_; clear E a; intro a E)
        refine wpList_nil ?_
        refine zAb hK ?_; clear hK K
        refine zDd (fun (a : Act) (w' : World) => ∃ z, (z = true ↔ (r.kind = 6 ∨ r.kind = 7)) ∧ St w0 As w' ([(b1, cel (r.cells (.slice ad1 r.props.length c1) (.slice ad2 r.keep.length c2) (.slice ad3 r.data.length c3)) 26)] :: As) ∧ Fr a 115 [(1, ptr b1), (2, .int .i64 0), (3, .bool false), (14, .int .i64 r.kind), (98, .bool z)]) ?_ ?_
        ·skip
         refine zAs E rfl (fun hb => ?_) (fun hb => ?_)
         ·replace hb := Nrm.nrm hb
          refine wp_skip ?_
          refine zAk ?_
          exact ⟨_, ⟨fun _ => by omega, fun _ => by simp; omega⟩, S, E.keep (kE5 rfl rfl rfl rfl rfl)⟩
         ·replace hb := Nrm.nrm hb
          refine zAa ?_
          iterate 2 (refine zd E ?_; clear E a; intro a E)
          refine wpList_nil ?_
          refine zAk ?_
          exact ⟨_, ⟨fun q => by simp at q; omega, fun q => by simp; omega⟩, S, E.keep (kE5 rfl rfl rfl rfl rfl)⟩
        ·clear S E a; intro a w J; obtain ⟨z6, hz6, S, E⟩ := J
         skip
         refine zAb hK ?_; clear hK K
         refine zAs E rfl (fun hb => ?_) (fun hb => ?_)
         ·replace hb := Nrm.nrm hb
          have hk6 := hz6.1 hb
          refine zAa ?_
          refine zp E (zAz (vs := [_, _, _, _, _, _, _, _, _, _, _, _, _]) E rfl rfl rfl (S.get pZ) rfl rfl) ?_; clear E a; intro a E
          refine zAh E rfl rfl dZ rfl Tryz.func33 rfl yZ rfl (zFz hR hs _ S.hp 2 dZ dZ) ?_
          rintro v102 w ⟨rfl, hT⟩; clear E a; intro a E
          have S := S.all hT
          refine zd E ?_; clear E a; intro a E
          refine zAj E (t := 103) rfl (fun hb103 => ?_) (fun hb103 => ?_)
          ·have hb103n := hb103; replace hb103n := Nrm.nrm hb103n
           refine zy E hb103 (by first | exact zAc (q := 10) E rfl rfl rfl | exact zAd (q := 10) E rfl rfl rfl) ?_; clear E a; intro a E
           iterate 2 (refine zyd E hb103 ?_; clear E a; intro a E)
           refine zp E (zAf E rfl rfl hb103 rfl) ?_; clear E a; intro a E
           refine zd E ?_; clear E a; intro a E
           refine zAj E (t := 108) rfl (fun hb108 => ?_) (fun hb108 => ?_)
           ·have hb108n := hb108; replace hb108n := Nrm.nrm hb108n
            refine zy E hb108 (by first | exact zAc (q := 10) E rfl rfl rfl | exact zAd (q := 10) E rfl rfl rfl) ?_; clear E a; intro a E
            iterate 2 (refine zyd E hb108 ?_; clear E a; intro a E)
            refine zp E (zAf E rfl rfl hb108 rfl) ?_; clear E a; intro a E
            refine zd E ?_; clear E a; intro a E
            refine wpList_nil ?_
            refine zAr ?_
            refine zAk ?_
            refine ⟨_, ?_, S, E.keep (kE3 rfl rfl rfl)⟩
            first
             | (rw [ck1 hk1]; clear hT E S; clear hR hs hC H; simp_all <;> omega)
             | (rw [ck2 hk2]; clear hT E S; clear hR hs hC H; simp_all)
             | (rw [ck3 hk3]; clear hT E S; clear hR hs hC H; simp_all)
             | (rw [ck4 hk4]; simp only [may4]; clear hT E S; clear hR hs hC H; simp_all <;> omega)
             | (rw [ck5 hk5]; simp only [may5]; clear hT E S; clear hR hs hC H; simp_all <;> omega)
             | (rw [ck6 hk6]; simp only [may6]; clear hT E S; clear hR hs hC H; simp_all <;> omega)
             | (rw [ck0 (by unfold inK; omega)])
           ·have hb108n := hb108; replace hb108n := Nrm.nrm hb108n
            iterate 3 (refine zn E hb108 ?_; clear E a; intro a E)
            refine zp E (zAe E rfl rfl hb108 rfl) ?_; clear E a; intro a E
            refine zd E ?_; clear E a; intro a E
            refine wpList_nil ?_
            refine zAr ?_
            refine zAk ?_
            refine ⟨_, ?_, S, E.keep (kE3 rfl rfl rfl)⟩
            first
             | (rw [ck1 hk1]; clear hT E S; clear hR hs hC H; simp_all <;> omega)
             | (rw [ck2 hk2]; clear hT E S; clear hR hs hC H; simp_all)
             | (rw [ck3 hk3]; clear hT E S; clear hR hs hC H; simp_all)
             | (rw [ck4 hk4]; simp only [may4]; clear hT E S; clear hR hs hC H; simp_all <;> omega)
             | (rw [ck5 hk5]; simp only [may5]; clear hT E S; clear hR hs hC H; simp_all <;> omega)
             | (rw [ck6 hk6]; simp only [may6]; clear hT E S; clear hR hs hC H; simp_all <;> omega)
             | (rw [ck0 (by unfold inK; omega)])
          ·have hb103n := hb103; replace hb103n := Nrm.nrm hb103n
           iterate 3 (refine zn E hb103 ?_; clear E a; intro a E)
           refine zp E (zAe E rfl rfl hb103 rfl) ?_; clear E a; intro a E
           refine zd E ?_; clear E a; intro a E
           iterate 3 (refine zn E rfl ?_; clear E a; intro a E)
           refine zp E (zAe E rfl rfl rfl rfl) ?_; clear E a; intro a E
           refine zd E ?_; clear E a; intro a E
           refine wpList_nil ?_
           refine zAr ?_
           refine zAk ?_
           refine ⟨_, ?_, S, E.keep (kE3 rfl rfl rfl)⟩
           first
            | (rw [ck1 hk1]; clear hT E S; clear hR hs hC H; simp_all <;> omega)
            | (rw [ck2 hk2]; clear hT E S; clear hR hs hC H; simp_all)
            | (rw [ck3 hk3]; clear hT E S; clear hR hs hC H; simp_all)
            | (rw [ck4 hk4]; simp only [may4]; clear hT E S; clear hR hs hC H; simp_all <;> omega)
            | (rw [ck5 hk5]; simp only [may5]; clear hT E S; clear hR hs hC H; simp_all <;> omega)
            | (rw [ck6 hk6]; simp only [may6]; clear hT E S; clear hR hs hC H; simp_all <;> omega)
            | (rw [ck0 (by unfold inK; omega)])
         ·replace hb := Nrm.nrm hb
          have hk6 : ¬ (r.kind = 6 ∨ r.kind = 7) := fun q => by rw [hz6.2 q] at hb; cases hb
          refine wp_skip ?_
          refine zAr ?_
          refine zAk ?_
          refine ⟨_, ?_, S, E.keep (kE3 rfl rfl rfl)⟩
          first
           | (rw [ck1 hk1]; clear hT E S; clear hR hs hC H; simp_all <;> omega)
           | (rw [ck2 hk2]; clear hT E S; clear hR hs hC H; simp_all)
           | (rw [ck3 hk3]; clear hT E S; clear hR hs hC H; simp_all)
           | (rw [ck4 hk4]; simp only [may4]; clear hT E S; clear hR hs hC H; simp_all <;> omega)
           | (rw [ck5 hk5]; simp only [may5]; clear hT E S; clear hR hs hC H; simp_all <;> omega)
           | (rw [ck6 hk6]; simp only [may6]; clear hT E S; clear hR hs hC H; simp_all <;> omega)
           | (rw [ck0 (by unfold inK; omega)])
  ·clear S E a; intro a w J; obtain ⟨z, hz, S, E⟩ := J
   refine zAb hK ?_; clear hK K
   iterate 2 (refine wp_seq_k ?_; intro K hK)
   refine zAa ?_
   iterate 2 (refine zd E ?_; clear E a; intro a E)
   refine wpList_nil ?_
   refine zAb hK ?_; clear hK K
   refine zAs E rfl (fun hb => ?_) (fun hb => ?_)
   ·replace hb := Nrm.nrm hb
    refine wp_seq_k ?_; intro K hK
    refine zAa ?_
    refine zd E ?_; clear E a; intro a E
    refine wpList_nil ?_
    refine zAb hK ?_; clear hK K
    refine wp_ret ?_
    refine zAn ?_; clear hK K
    refine ret1 E rfl rfl ?_
    exact ⟨_, rfl, by simp at hb; rw [hz] at hb; simp [ckE, hb], S.tail.tr⟩
   ·replace hb := Nrm.nrm hb
    refine wp_skip ?_
    refine zAb hK ?_; clear hK K
    refine wp_seq_k ?_; intro K hK
    refine zAa ?_
    refine zd E ?_; clear E a; intro a E
    refine wpList_nil ?_
    refine zAb hK ?_; clear hK K
    refine wp_ret ?_
    refine ret1 E rfl rfl ?_
    exact ⟨_, rfl, by simp at hb; rw [hz] at hb; simp [ckE, hb], S.tail.tr⟩
end
end Go.Proofs.YtbogecljkaimdaaGreatDoor
namespace Go.Sl
section
variable {P : Program} {a : Act} {w : World} {n : Nat} {e : List (Nat × Value)} {ds : List Deferred} {fn : Func} {R : Ending → World → Prop}
theorem ret_tc (E : Fr a n e) {q t : Nat} {v : Value} {ty : TypeId} {b : Nat} {vs : List Value} {T : TypeId} {fr : Nat × Nat} (hr : fn.results = #[.tmp q, .cell t ty]) (hv : lk e q = some v) (hp : lk e t = some (.pointer (some ⟨b, 0, none⟩)))
  (hb : w.heap[b]? = some (.cells vs.toArray T fr)) (hs : zEb P ty = some vs.length) (h : R (.returned (.tuple #[v, .agg vs.toArray])) w) : bodyPost P fn R .ret a w :=
 ⟨E.nod, .tuple #[v, .agg vs.toArray], by
  have h1 := zDu (P := P) hb hs
  have h2 := E.get t _ hp
  have h4 := E.get q _ hv
  simp [results, hr, h2, h4, asAddr, h1], h⟩
end
theorem St.front7 {w0 w : World} {As Ls L1 L2 L3 L4 L5 L6 L7 : List zAl} {A B C D F G I : zAl} (S : St w0 As w Ls) (p : Ls.Perm (A :: L1)) (q : L1.Perm (B :: L2)) (r : L2.Perm (C :: L3)) (t : L3.Perm (D :: L4)) (u : L4.Perm (F :: L5)) (v : L5.Perm (G :: L6)) (x : L6.Perm (I :: L7)) : St w0 As w (A :: B :: C :: D :: F :: G :: I :: L7) := S.front6 p q r t u (v.trans (x.cons _))
end Go.Sl
namespace Go.Sl
theorem form_step (n k : Nat) : zBj n (k + 1) = zBj n k ++ [UInt8.ofNat (n / 256 ^ k % 256)] := by
 rw [zBj]
 congr 2
 have : (2 : Nat) ^ (8 * k) = 256 ^ k := by rw [Nat.pow_mul]
 rw [this]
 apply UInt8.toNat_inj.1
 simp
theorem div_step (n k : Nat) : n / 256 ^ k / 256 = n / 256 ^ (k + 1) := by rw [Nat.div_div_eq_div_mul, Nat.pow_succ]
theorem w8m (n : Nat) : IntKind.u8.wrap ((n % 256 : Nat) : Int) = ((UInt8.ofNat (n % 256)).toNat : Int) := w8 _
theorem divle (n k : Nat) : n / 256 ^ k ≤ n := Nat.div_le_self _ _
end Go.Sl
namespace Go.Proofs.YtbogecljkaimdaaGreatDoor
open Go.Sl
set_option maxRecDepth 10000
abbrev BB (C : zAl) (v : Value) (bs : List UInt8) : Prop := Buf C 5 1 v bs.length (byt bs)
theorem zLa {C : zAl} {v : Value} {xs ys : List UInt8} (h : Buf C 5 1 v (xs.length + ys.length) (byt xs ++ byt ys)) : BB C v (xs ++ ys) := by
 show Buf C _ 1 v (xs ++ ys).length _
 rw [List.length_append, zDa]; exact h
theorem unumber_ret {C : zAl} {v : Value} {bs : List UInt8} (hB : BB C v bs) (hl : bs.length ≤ 140737488300000) (z : Int) (hz : 0 ≤ z) (hz2 : z ≤ 9223372036854775807) (size : Nat) (h8 : size ≤ 8) (As : List zAl) (w0 : World) (H : Hp w0 (C :: As)) :
  Ret Tryz.prog 39 #[v, .int .i64 z, .int .i64 size] w0 fun u w' => ∃ C', BB C' u (bs ++ zBj z.toNat size) ∧ Trs w0 w' (C :: As) (C' :: As) := by
 have S := St.begin H
 obtain ⟨n, rfl⟩ : ∃ n : Nat, z = n := ⟨z.toNat, by omega⟩
 refine zEz 22 Tryz.func39 rfl rfl dZ ?_; intro a E
 refine wp_seq_k ?_; intro K hK
 refine zAa ?_
 refine zd E ?_; clear E a; intro a E
 refine wpList_nil ?_
 refine zAb hK ?_; clear hK K
 iterate 2 (refine wp_seq_k ?_; intro K hK)
 refine zAa ?_
 refine zd E ?_; clear E a; intro a E
 refine wpList_nil ?_
 refine zAb hK ?_; clear hK K
 refine wp_block ?_
 refine wp_loop_ghost (fun (m : Nat) (a : Act) (w' : World) => ∃ (i : Nat) (C' : zAl) (v' : Value), m = size - i ∧ i ≤ size ∧ BB C' v' (bs ++ zBj n i) ∧ St w0 (C :: As) w' (C' :: As) ∧ Fr a 22 [(0, v'), (1, .int .i64 (n / 256 ^ i : Nat)), (2, .int .i64 size), (6, nilv), (7, .int .i64 i)]) (size) ?_ ?_
 ·exact ⟨0, C, v, by omega, by omega, by rw [zBj, List.append_nil]; exact hB, S, by rw [Nat.pow_zero, Nat.div_one]; exact E.keep (kE5 rfl rfl rfl rfl rfl)⟩
 clear E; clear a; (try clear S); rintro m a w ⟨i, C', v', rfl, hi, hB', S, E⟩
 iterate 2 (refine wp_seq_k ?_; intro K hK)
 refine zAa ?_
 iterate 3 (refine zd E ?_; clear E a; intro a E)
 refine wpList_nil ?_
 refine zAb hK ?_; clear hK K
 refine zAs E rfl (fun hb => ?_) (fun hb => ?_)
 ·replace hb := Nrm.nrm hb
  refine wp_skip ?_
  refine zAb hK ?_; clear hK K
  refine wp_seq_k ?_; intro K hK
  refine wp_block ?_
  refine wp_seq_k ?_; intro K hK
  have hd := divle n i
  have hst := form_step n i
  have hdv := div_step n i
  have hbl : (bs ++ zBj n i).length = bs.length + i := by rw [List.length_append, zAx]
  obtain ⟨d, hd2⟩ : ∃ d, d = n / 256 ^ i := ⟨_, rfl⟩
  rw [← hd2] at E hd hst hdv
  obtain ⟨cs, hcs⟩ : ∃ cs, cs = bs ++ zBj n i := ⟨_, rfl⟩
  rw [← hcs] at hB' hbl
  refine zAa ?_
  iterate 2 (refine zd E ?_; clear E a; intro a E)
  refine zp E (rn_rem E rfl rfl rfl (by first | decide | omega) (wr_lit (x := d) (y := 256))) ?_; clear E a; intro a E
  refine zp E (zAo E rfl rfl rfl rfl (w8m d)) ?_; clear E a; intro a E
  refine zAg rfl (zCm (cells := [_]) E S rfl rfl dZ rfl rfl rfl rfl rfl dZ rfl ?_); clear E S a; intro a w b17 E S
  refine zAg rfl (zBu (by' := 1) E S rfl rfl dZ rfl rfl hB' pZ ((zEa (g := b17) (T := 5) (xs := [.int .u8 (UInt8.ofNat (d % 256)).toNat]) (s := 1) (m := 1) rfl (by simp [Value.oneCell']) oZ 1).src (S.stab.at mZ) rfl) rfl rfl rfl rfl rfl rfl (by simp only [maxLen]; omega) oZ ?_); clear E S a; intro a w v18 C18 E S hB18
  refine zd E ?_; clear E a; intro a E
  refine wpList_nil ?_
  refine zAb hK ?_; clear hK K
  refine zAa ?_
  refine zd E ?_; clear E a; intro a E
  refine zp E (rn_quo E rfl rfl rfl dZ (by first | exact wq_lit (y := 256) oZ | exact wq_litu (y := 256) oZ | exact rfl)) ?_; clear E a; intro a E
  refine zd E ?_; clear E a; intro a E
  refine wpList_nil ?_
  refine zAr ?_
  refine zAb hK ?_; clear hK K
  refine zAa ?_
  refine zd E ?_; clear E a; intro a E
  refine zp E (zBc E rfl rfl rfl (by first | exact zBq (y := 1) oZ | exact w_in oZ | exact zBb oZ | exact rfl)) ?_; clear E a; intro a E
  refine zd E ?_; clear E a; intro a E
  refine wpList_nil ?_
  refine zAy ?_
  have hB2 : BB C18 v18 (cs ++ [UInt8.ofNat (d % 256)]) := zLa hB18
  exact ⟨_, by omega, i + 1, C18, v18, rfl, by omega, by rw [hst, ← List.append_assoc, ← hcs]; exact hB2, S.perm2.tail, by rw [← hdv]; exact E.keep (kE5 rfl rfl rfl rfl rfl)⟩
 ·replace hb := Nrm.nrm hb
  refine wp_exit ?_
  refine zAp ?_; clear hK K
  refine zAp ?_
  refine zBr ?_
  refine zAb hK ?_; clear hK K
  refine wp_seq_k ?_; intro K hK
  refine zAa ?_
  iterate 2 (refine zd E ?_; clear E a; intro a E)
  refine wpList_nil ?_
  refine zAb hK ?_; clear hK K
  refine wp_ret ?_
  refine ret1 E rfl rfl ?_
  obtain rfl : i = size := by omega
  exact ⟨_, rfl, C', by rw [Int.toNat_natCast]; exact hB', S.tr⟩
theorem zLb (s : Fs) (As : List zAl) (w0 : World) (H : Hp w0 As) (hok : s.Ok) :
  Ret Tryz.prog 40 #[s.agg] w0 fun u w' => ∃ C, BB C u (zEf s) ∧ Trs w0 w' As (C :: As) := by
 have S := St.begin H
 obtain ⟨ws, hws⟩ : ∃ ws, ws = s.ws := ⟨_, rfl⟩
 have hwl : ws.length = 4 := by rw [hws]; rfl
 have hwc : u64n ws = [.int .u64 s.a, .int .u64 s.b, .int .u64 s.c, .int .u64 s.d] := by rw [hws]; rfl
 have hwb : ∀ n ∈ ws, n < 18446744073709551616 := by
  obtain ⟨h1, h2, h3, h4⟩ := hok
  rw [hws]; simp only [Fs.ws, List.mem_cons, List.not_mem_nil, or_false]
  rintro n (rfl | rfl | rfl | rfl) <;> assumption
 refine zCd 38 Tryz.func40 rfl rfl dZ ?_; intro a E
 refine wp_seq_k ?_; intro K hK
 refine zAa ?_
 refine zAg rfl (zBx E S rfl rfl dZ rfl rfl ?_); clear E S a; intro a w b1 E S
 refine zd E ?_; clear E a; intro a E
 refine wpList_nil ?_
 refine zAb hK ?_; clear hK K
 refine wp_seq_k ?_; intro K hK
 refine zAa ?_
 refine zd E ?_; clear E a; intro a E
 refine wpList_nil ?_
 refine zAb hK ?_; clear hK K
 refine wp_seq_k ?_; intro K hK
 refine zAa ?_
 refine zp E (by first | exact zAc (q := 0) E rfl rfl rfl | exact zAd (q := 0) E rfl rfl rfl) ?_; clear E a; intro a E
 refine zd E ?_; clear E a; intro a E
 refine zp E (by first | exact zAc (q := 1) E rfl rfl rfl | exact zAd (q := 1) E rfl rfl rfl) ?_; clear E a; intro a E
 refine zd E ?_; clear E a; intro a E
 refine zp E (by first | exact zAc (q := 2) E rfl rfl rfl | exact zAd (q := 2) E rfl rfl rfl) ?_; clear E a; intro a E
 refine zd E ?_; clear E a; intro a E
 refine zp E (by first | exact zAc (q := 3) E rfl rfl rfl | exact zAd (q := 3) E rfl rfl rfl) ?_; clear E a; intro a E
 refine zd E ?_; clear E a; intro a E
 refine zAg rfl (zCm (cells := [_, _, _, _]) E S rfl rfl dZ rfl rfl rfl rfl rfl dZ rfl ?_); clear E S a; intro a w b16 E S
 rw [← hwc] at S
 refine zd E ?_; clear E a; intro a E
 refine wpList_nil ?_
 refine zAb hK ?_; clear hK K
 iterate 2 (refine wp_seq_k ?_; intro K hK)
 refine zAa ?_
 refine zd E ?_; clear E a; intro a E
 refine wpList_nil ?_
 refine zAb hK ?_; clear hK K
 refine wp_block ?_
 refine wp_loop_ghost (fun (m : Nat) (a : Act) (w' : World) => ∃ (i : Nat) (C : zAl) (v : Value), m = 4 - i ∧ i ≤ 4 ∧ BB C v (zFy (ws.take i)) ∧ St w0 As w' (C :: [(b16, cel (u64n ws) 27)] :: As) ∧ Fr a 38 [(2, nilv), (3, v), (4, .slice (some ⟨b16, 0, none⟩) 4 4), (5, .int .i64 i)]) (4) ?_ ?_
 ·exact ⟨0, [], _, by omega, by omega, Buf.nil _ _, S.perm2.tail.addNil, E.keep (kE4 rfl rfl rfl rfl)⟩
 clear E; clear a; (try clear S); rintro m a w ⟨i, C, v, rfl, hi, hB, S, E⟩
 iterate 2 (refine wp_seq_k ?_; intro K hK)
 refine zAa ?_
 iterate 2 (refine zd E ?_; clear E a; intro a E)
 refine wpList_nil ?_
 refine zAb hK ?_; clear hK K
 refine zAs E rfl (fun hb => ?_) (fun hb => ?_)
 ·replace hb := Nrm.nrm hb
  refine wp_skip ?_
  refine zAb hK ?_; clear hK K
  refine wp_seq_k ?_; intro K hK
  refine wp_block ?_
  refine wp_seq_k ?_; intro K hK
  have hil : i < ws.length := by omega
  have hwi := hwb _ (List.getElem_mem hil)
  refine zAa ?_
  iterate 2 (refine zd E ?_; clear E a; intro a E)
  refine zp E (by first | exact zAw E rfl rfl rfl rfl rfl rfl oZ | exact zBe E rfl rfl rfl rfl rfl rfl oZ | exact zAu E rfl rfl rfl rfl rfl rfl oZ) ?_; clear E a; intro a E
  refine zp E (zBd E rfl rfl rfl (by rw [Nat.zero_add]; exact zCf (S.get pZ) (u64n_at hil))) ?_; clear E a; intro a E
  refine zd E ?_; clear E a; intro a E
  refine wpList_nil ?_
  refine zAb hK ?_; clear hK K
  refine wp_seq_k ?_; intro K hK
  refine zAa ?_
  refine zd E ?_; clear E a; intro a E
  refine wpList_nil ?_
  refine zAb hK ?_; clear hK K
  refine wp_block ?_
  refine wp_loop_ghost (fun (m : Nat) (a : Act) (w' : World) => ∃ (j : Nat) (C : zAl) (v : Value), m = 8 - j ∧ j ≤ 8 ∧ BB C v (zFy (ws.take i) ++ zBj ws[i] j) ∧ St w0 As w' (C :: [(b16, cel (u64n ws) 27)] :: As) ∧ Fr a 38 [(2, nilv), (3, v), (4, .slice (some ⟨b16, 0, none⟩) 4 4), (5, .int .i64 i), (6, .int .u64 (ws[i] / 256 ^ j : Nat)), (7, .int .i64 j)]) (8) ?_ ?_
  ·exact ⟨0, C, v, by omega, by omega, by simpa [zBj] using hB, S, by rw [Nat.pow_zero, Nat.div_one]; exact E.keep (kE6 rfl rfl rfl rfl rfl rfl)⟩
  clear E; clear a; (try clear S); rintro m a w ⟨j, C, v, rfl, hj, hB, S, E⟩
  iterate 2 (refine wp_seq_k ?_; intro K hK)
  refine zAa ?_
  iterate 2 (refine zd E ?_; clear E a; intro a E)
  refine wpList_nil ?_
  refine zAb hK ?_; clear hK K
  refine zAs E rfl (fun hb => ?_) (fun hb => ?_)
  ·replace hb := Nrm.nrm hb
   refine wp_skip ?_
   refine zAb hK ?_; clear hK K
   refine wp_seq_k ?_; intro K hK
   refine wp_block ?_
   refine wp_seq_k ?_; intro K hK
   have hd := divle ws[i] j
   have hst := form_step ws[i] j
   have hdv := div_step ws[i] j
   have hbl : (zFy (ws.take i) ++ zBj ws[i] j).length = 8 * i + j := by rw [List.length_append, zAx, zIf, List.length_take, Nat.min_eq_left oZ]
   obtain ⟨d, hd2⟩ : ∃ d, d = ws[i] / 256 ^ j := ⟨_, rfl⟩
   rw [← hd2] at E hd hst hdv
   obtain ⟨cs, hcs⟩ : ∃ cs, cs = zFy (ws.take i) ++ zBj ws[i] j := ⟨_, rfl⟩
   rw [← hcs] at hB hbl
   refine zAa ?_
   iterate 2 (refine zd E ?_; clear E a; intro a E)
   refine zp E (rn_rem E rfl rfl rfl (by first | decide | omega) (wr_lit (x := d) (y := 256))) ?_; clear E a; intro a E
   refine zp E (zAo E rfl rfl rfl rfl (w8m d)) ?_; clear E a; intro a E
   refine zAg rfl (zCm (cells := [_]) E S rfl rfl dZ rfl rfl rfl rfl rfl dZ rfl ?_); clear E S a; intro a w b33 E S
   refine zAg rfl (zBu (by' := 1) E S rfl rfl dZ rfl rfl hB pZ ((zEa (g := b33) (T := 5) (xs := [.int .u8 (UInt8.ofNat (d % 256)).toNat]) (s := 1) (m := 1) rfl (by simp [Value.oneCell']) oZ 1).src (S.stab.at mZ) rfl) rfl rfl rfl rfl rfl rfl (by simp only [maxLen]; omega) oZ ?_); clear E S a; intro a w v34 C34 E S hB34
   refine zd E ?_; clear E a; intro a E
   refine wpList_nil ?_
   refine zAb hK ?_; clear hK K
   refine zAa ?_
   refine zd E ?_; clear E a; intro a E
   refine zp E (rn_quo E rfl rfl rfl dZ (by first | exact wq_lit (y := 256) oZ | exact wq_litu (y := 256) oZ | exact rfl)) ?_; clear E a; intro a E
   refine zd E ?_; clear E a; intro a E
   refine wpList_nil ?_
   refine zAr ?_
   refine zAb hK ?_; clear hK K
   refine zAa ?_
   refine zd E ?_; clear E a; intro a E
   refine zp E (zBc E rfl rfl rfl (by first | exact zBq (y := 1) oZ | exact w_in oZ | exact zBb oZ | exact rfl)) ?_; clear E a; intro a E
   refine zd E ?_; clear E a; intro a E
   refine wpList_nil ?_
   refine zAy ?_
   have hB2 : BB C34 v34 (cs ++ [UInt8.ofNat (d % 256)]) := zLa hB34
   exact ⟨_, by omega, j + 1, C34, v34, rfl, by omega, by rw [hst, ← List.append_assoc, ← hcs]; exact hB2, S.perm2.tail, by rw [← hdv]; exact E.keep (kE6 rfl rfl rfl rfl rfl rfl)⟩
  ·replace hb := Nrm.nrm hb
   refine wp_exit ?_
   refine zAp ?_; clear hK K
   refine zAp ?_
   refine zBr ?_
   refine zAr ?_
   refine zAb hK ?_; clear hK K
   refine zAa ?_
   refine zd E ?_; clear E a; intro a E
   refine zp E (zBc E rfl rfl rfl (by first | exact zBq (y := 1) oZ | exact w_in oZ | exact zBb oZ | exact rfl)) ?_; clear E a; intro a E
   refine zd E ?_; clear E a; intro a E
   refine wpList_nil ?_
   refine zAy ?_
   obtain rfl : j = 8 := by omega
   exact ⟨_, by omega, i + 1, C, v, rfl, by omega, by rw [zKe hil]; exact hB, S, E.keep (kE4 rfl rfl rfl rfl)⟩
 ·replace hb := Nrm.nrm hb
  refine wp_exit ?_
  refine zAp ?_; clear hK K
  refine zAp ?_
  refine zBr ?_
  refine zAb hK ?_; clear hK K
  refine wp_seq_k ?_; intro K hK
  refine zAa ?_
  iterate 2 (refine zd E ?_; clear E a; intro a E)
  refine wpList_nil ?_
  refine zAb hK ?_; clear hK K
  refine wp_ret ?_
  refine ret1 E rfl rfl ?_
  obtain rfl : i = 4 := by omega
  rw [List.take_of_length_le oZ, hws] at hB
  exact ⟨_, rfl, C, hB, S.perm2.tail.tr⟩
theorem usealed_ret (k : Nat) (hk : k ≤ 255) {D : zAl} {v : Value} {b : List UInt8} (hD : Rd D 1 v b.length (byt b)) (hbl : b.length ≤ 140737488351300) (s : Fs) (hok : s.Ok) {As : List zAl} (mD : D ∈ As) (hG0 : Tab As 0 sha0.l) (hG1 : Tab As 1 shaK) (w0 : World) (H : Hp w0 As) :
  Ret Tryz.prog 18 #[.int .i64 k, v, s.agg] w0 fun u w' => ∃ v' C, u = .tuple #[v', (ownS k b s).agg] ∧ BB C v' (zCt k b s) ∧ Trs w0 w' As (C :: As) := by
 have S := St.begin H
 obtain ⟨ad, c, rfl⟩ := hD.slice
 have hsl := zDg s
 refine zEz 37 Tryz.func18 rfl rfl dZ ?_; intro a E
 refine wp_seq_k ?_; intro K hK
 refine zAa ?_
 refine zAg rfl (zBx E S rfl rfl dZ rfl rfl ?_); clear E S a; intro a w b5 E S
 refine zd E ?_; clear E a; intro a E
 refine zAg rfl (zBf E S rfl rfl dZ rfl rfl rfl ?_); clear E S a; intro a w b7 E S
 refine wpList_nil ?_
 refine zAb hK ?_; clear hK K
 refine wp_seq_k ?_; intro K hK
 refine zAa ?_
 refine zd E ?_; clear E a; intro a E
 refine zp E (zAo E rfl rfl rfl rfl (w8 k)) ?_; clear E a; intro a E
 refine zAg rfl (zCm (cells := [_]) E S rfl rfl dZ rfl rfl rfl rfl rfl dZ rfl ?_); clear E S a; intro a w b14 E S
 refine zd E ?_; clear E a; intro a E
 refine wpList_nil ?_
 refine zAb hK ?_; clear hK K
 refine wp_seq_k ?_; intro K hK
 have hB1 : BB [(b14, cel (byt [UInt8.ofNat k]) 5)] (.slice (some ⟨b14, 0, none⟩) 1 1) [UInt8.ofNat k] := zIa b14 [UInt8.ofNat k] 5 (by simp)
 refine zAa ?_
 iterate 3 (refine zd E ?_; clear E a; intro a E)
 refine zAh E rfl rfl dZ rfl Tryz.func39 rfl yZ rfl (unumber_ret hB1 (by simp) b.length oZ oZ 4 oZ _ _ S.hp) ?_
 rintro v18 w ⟨C2, hB2, hT⟩; clear E a; intro a E
 have S := S.all hT
 refine zd E ?_; clear E a; intro a E
 refine wpList_nil ?_
 refine zAb hK ?_; clear hK K
 refine wp_seq_k ?_; intro K hK
 have hh : [UInt8.ofNat k] ++ zBj ((b.length : Int)).toNat 4 = headB k b.length := by simp [headB, zBj]
 rw [hh] at hB2
 have hhl := zGu k b.length
 refine zAa ?_
 iterate 2 (refine zd E ?_; clear E a; intro a E)
 refine zAg rfl (zBu (by' := 1) E S rfl rfl dZ rfl rfl hB2 pZ (hD.src (S.stab.at (List.Mem.tail _ (List.Mem.tail _ (List.Mem.tail _ mD)))) rfl) rfl rfl rfl rfl rfl rfl (by simp only [maxLen]; omega) oZ ?_); clear E S a; intro a w v21 C21 E S hB21
 refine zd E ?_; clear E a; intro a E
 refine wpList_nil ?_
 refine zAb hK ?_; clear hK K
 refine wp_seq_k ?_; intro K hK
 have hB3 : BB C21 v21 (zEr k b) := zLa hB21
 have hfl := zEh k b
 clear hB21
 refine zAa ?_
 refine zp E (zAz (vs := [_, _, _, _]) E rfl rfl rfl (S.get pZ) rfl rfl) ?_; clear E a; intro a E
 refine zAh E rfl rfl dZ rfl Tryz.func40 rfl yZ rfl (zLb s _ _ S.hp hok) ?_
 rintro v23 w ⟨C4, hB4, hT⟩; clear E a; intro a E
 have S := S.all hT
 refine zd E ?_; clear E a; intro a E
 refine wpList_nil ?_
 refine zAb hK ?_; clear hK K
 refine wp_seq_k ?_; intro K hK
 refine zAa ?_
 iterate 2 (refine zd E ?_; clear E a; intro a E)
 refine zAg rfl (zBu (by' := 1) E S rfl rfl dZ rfl rfl hB4 pZ (hB3.rd.src (S.stab.at mZ) rfl) rfl rfl rfl rfl rfl rfl (by simp only [maxLen]; omega) oZ ?_); clear E S a; intro a w v26 C26 E S hB26
 refine zd E ?_; clear E a; intro a E
 refine wpList_nil ?_
 refine zAb hK ?_; clear hK K
 refine wp_seq_k ?_; intro K hK
 replace E := E.keep (e' := [(6, _), (7, _), (8, _), (9, _)]) (kE4 rfl rfl rfl rfl)
 have hB5 : BB C26 v26 (zEf s ++ zEr k b) := zLa hB26
 have h5l : (zEf s ++ zEr k b).length = 37 + b.length := by rw [List.length_append]; omega
 refine zAa ?_
 refine zd E ?_; clear E a; intro a E
 refine zAh E rfl rfl dZ rfl Tryz.func41 rfl yZ rfl (dsumof2_ret C26 v26 _ hB5.rd oZ _ mZ (hG0.sub fun Q hQ => List.Mem.tail _ (List.Mem.tail _ (List.Mem.tail _ (List.Mem.tail _ hQ)))) (hG1.sub fun Q hQ => List.Mem.tail _ (List.Mem.tail _ (List.Mem.tail _ (List.Mem.tail _ hQ)))) _ S.hp) ?_
 rintro v29 w ⟨he, hT⟩; clear E a; intro a E
 obtain ⟨own, hown⟩ : ∃ own, own = ownS k b s := ⟨_, rfl⟩; have hokO : own.Ok := (by rw [hown]; exact shaF_ok _); rw [show shaF (zEf s ++ zEr k b) = own from hown.symm] at he; subst he; have S := S.all hT
 iterate 3 (refine zd E ?_; clear E a; intro a E)
 refine zAg rfl (zBf E S rfl rfl dZ rfl rfl rfl ?_); clear E S a; intro a w b10 E S
 refine zAg rfl (zAq E S rfl rfl rfl rfl (by simp [Value.oneCell']) rfl pZ (by simp) ?_); clear E S a; intro a w E S; simp only [List.take_succ_cons, List.take_zero, List.drop_succ_cons, List.drop_zero, List.cons_append, List.nil_append, List.append_nil, List.length_cons, List.length_nil, Nat.zero_add, Nat.add_zero] at S
 refine zd E ?_; clear E a; intro a E
 refine wpList_nil ?_
 refine zAb hK ?_; clear hK K
 refine wp_seq_k ?_; intro K hK
 have hol := zDg own
 refine zCn S (.ofL [(0, 0), (1, 0), (4, 0), (2, 1), (3, 1), (5, 0), (6, 3)]) [[(b10, cel (fsC own) 29)]] (fun h => h.sub (by first | (simp; done) | (simp +contextual; done) | (simp [*]; done))) yZ yZ ?_
 clear S; intro w S
 refine zmd E ?_; clear E a; intro a E
 iterate 2 (refine zm E rfl (fun w h => zAz (vs := [_, _, _, _]) E rfl rfl rfl (h.one mZ) rfl rfl) ?_; clear E a; intro a E)
 refine zBs E rfl rfl rfl dZ rfl Tryz.func40 rfl yZ rfl (zLb own _ _ S.hp hokO) ?_
 rintro v34 w ⟨C7, hB7, hT⟩; clear E a; intro a E
 have S := S.all hT
 refine ⟨S.stab.sub (by first | (simp; done) | (simp +contextual; done) | (simp [*]; done)), ?_⟩
 refine zCu rfl rfl (zBu (by' := 1) E S rfl rfl dZ rfl rfl hB3 pZ (hB7.rd.src (S.stab.at mZ) rfl) rfl rfl rfl rfl rfl rfl (by simp only [maxLen]; omega) oZ ?_); clear E S a; intro a w v35 C35 E S hB35; refine ⟨S.stab.sub (by first | (simp; done) | (simp +contextual; done) | (simp [*]; done)), ?_⟩
 refine zmd E ?_; clear E a; intro a E
 refine zCb rfl rfl (zAq E S rfl rfl rfl rfl (by simp [Value.oneCell']) rfl pZ (by simp) ?_); clear E S a; intro a w E S; simp only [List.take_succ_cons, List.take_zero, List.drop_succ_cons, List.drop_zero, List.cons_append, List.nil_append, List.append_nil, List.length_cons, List.length_nil, Nat.zero_add, Nat.add_zero] at S
 refine zBi ?_
 refine zAb hK ?_; clear hK K
 refine wp_ret ?_
 refine ret_tc E rfl rfl rfl (S.get pZ) rfl ?_
 have hB8 : BB C35 v35 (zEr k b ++ zEf own) := zLa hB35
 refine ⟨_, rfl, v35, C35, by rw [← hown], by rw [zCt, ← hown]; exact hB8, ?_⟩
 exact (St.drops [_, _, _, _, _] (S.front1 (A := C35) pZ)).tr
end Go.Proofs.YtbogecljkaimdaaGreatDoor
