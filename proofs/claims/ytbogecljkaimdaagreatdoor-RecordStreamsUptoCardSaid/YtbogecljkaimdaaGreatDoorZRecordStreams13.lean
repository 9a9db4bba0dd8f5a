/-
  Texts put together (13).
-/
import Derived.Test.YtbogecljkaimdaaGreatDoorZRecordStreams12
namespace Go.Sl
theorem beg_no {r : Rec} (h : ¬ begP r) : begB r = false := by simp [begB, h]
end Go.Sl
namespace Go.Proofs.YtbogecljkaimdaaGreatDoor
open Go.Sl
set_option maxRecDepth 10000
section
variable {C : zAy} {r : Rec} {pv kv dv : Value} (hR : RecR C r pv kv dv) (hs : Sml r) {As : List zAy} (hC : C ∈ As) (w0 : World) (H : Hp w0 As)
include hR hs hC H
set_option maxHeartbeats 1000000 in
theorem ubegin_ret : Ret Tryz.prog 35 #[.agg (r.cells pv kv dv).toArray] w0 fun u w' => u = .bool (begB r) ∧ Trs w0 w' As As := by
  have S := St.begin H
  have h1 := hs.name
  have h2 := hs.snap
  have h3 := hs.props
  have hp := hR.pr
  obtain ⟨ad, c, rfl⟩ := hp.slice
  refine zCx 130 Tryz.func35 rfl rfl (by decide) ?_; intro a E
  refine wp_seq_k ?_; intro K hK
  refine zAb ?_
  refine zAn rfl (zCt E S rfl rfl (by decide) rfl rfl ?_); clear E S a; intro a w b1 E S
  refine zp E (zAd E rfl rfl) ?_; clear E a; intro a E
  refine wpList_nil ?_
  refine zAf hK ?_; clear hK; clear K
  refine wp_seq_k ?_; intro K hK
  obtain ⟨nm, hnm⟩ : ∃ nm, nm = r.name := ⟨_, rfl⟩
  have hcells : r.cells (.slice ad r.props.length c) kv dv = [.int .i64 r.kind, str nm, .int .i64 r.typ, .int .i64 r.frm, .int .i64 r.guid, .int .i64 r.origin, str r.snap, .slice ad r.props.length c, .int .i64 r.object, .int .i64 r.at_, .int .i64 r.many, kv, dv] := (by rw [hnm]; rfl)
  rw [hcells] at S
  refine zDw (fun (a : Act) (w' : World) => St w0 As w' ([(b1, cel [.int .i64 r.kind, str nm, .int .i64 r.typ, .int .i64 r.frm, .int .i64 r.guid, .int .i64 r.origin, str r.snap, .slice ad r.props.length c, .int .i64 r.object, .int .i64 r.at_, .int .i64 r.many, kv, dv] 26)] :: As) ∧ Fr a 130 [(1, ptr b1), (2, .bool false), (3, .bool (behB nm))]) ?_ ?_
  · skip
    refine zAb ?_
    refine zp E (by first | exact zAg (q := 1) E rfl rfl rfl | exact zAh (q := 1) E rfl rfl rfl) ?_; clear E a; intro a E
    refine zp E (by first | exact zAo E rfl rfl rfl (S.get (by repeat (first | exact pk1 | apply zAc))) rfl | exact zAj E rfl rfl rfl (by assumption)) ?_; clear E a; intro a E
    refine zp E (by first | exact zCe E rfl rfl rfl | exact zAt E rfl rfl rfl rfl | exact zBd E rfl rfl rfl rfl | exact zAw E rfl rfl rfl) ?_; clear E a; intro a E
    refine zp E (zAe E rfl rfl) ?_; clear E a; intro a E
    refine zAs E (t := 14) rfl (fun hb14 => ?_) (fun hb14 => ?_)
    · have hb14n := hb14; replace hb14n := Nrm.nrm hb14n
      iterate 5 (refine zn E hb14 ?_; clear E a; intro a E)
      iterate 4 (refine zu E ?_; clear E a; intro a E)
      refine zn E hb14 ?_; clear E a; intro a E
      refine zp E (zAl E rfl rfl hb14 rfl) ?_; clear E a; intro a E
      refine zp E (zAd E rfl rfl) ?_; clear E a; intro a E
      refine wpList_nil ?_
      refine zAu ?_
      have e : nm = [] := (by simpa using hb14)
      subst e
      exact ⟨S, E.keep (zAa rfl (zAa rfl (zAa rfl zAm)))⟩
    · have hb14n := hb14; replace hb14n := Nrm.nrm hb14n
      obtain ⟨c0, tl, rfl⟩ := List.exists_cons_of_ne_nil (show nm ≠ [] by simpa using hb14)
      refine zy E hb14 (by first | exact zAg (q := 1) E rfl rfl rfl | exact zAh (q := 1) E rfl rfl rfl) ?_; clear E a; intro a E
      refine zy E hb14 (by first | exact zAo E rfl rfl rfl (S.get (by repeat (first | exact pk1 | apply zAc))) rfl | exact zAj E rfl rfl rfl (by assumption)) ?_; clear E a; intro a E
      refine zy E hb14 (zDi (l := c0 :: tl) (i := 0) E rfl rfl rfl rfl rfl (Nat.succ_pos _)) ?_; clear E a; intro a E
      refine zy E hb14 (by first | exact zCe E rfl rfl rfl | exact zAt E rfl rfl rfl rfl | exact zBd E rfl rfl rfl rfl | exact zAw E rfl rfl rfl) ?_; clear E a; intro a E
      refine zy E hb14 (zAe E rfl rfl) ?_; clear E a; intro a E
      refine zAs E (t := 19) rfl (fun hb19 => ?_) (fun hb19 => ?_)
      · have hb19n := hb19; replace hb19n := Nrm.nrm hb19n
        refine zy E hb19 (by first | exact zAg (q := 1) E rfl rfl rfl | exact zAh (q := 1) E rfl rfl rfl) ?_; clear E a; intro a E
        refine zy E hb19 (by first | exact zAo E rfl rfl rfl (S.get (by repeat (first | exact pk1 | apply zAc))) rfl | exact zAj E rfl rfl rfl (by assumption)) ?_; clear E a; intro a E
        refine zy E hb19 (rn_cat E rfl rfl rfl (by rw [← hnm] at h1; simp only [List.length_cons, List.length_nil] at *; omega)) ?_; clear E a; intro a E
        refine zCb E rfl rfl rfl rfl hb19 ?_; refine zCv E rfl (by decide) rfl Tryz.func79 rfl (by kernel_rfl) rfl (uName_ret (120 :: c0 :: tl) (by rw [List.length_cons, hnm]; omega) _ _ S.hp) ?_
        rintro v23 w ⟨rfl, hT⟩; clear E a; intro a E
        have S := S.all hT
        refine zy E hb14 (zAl E rfl rfl hb19 rfl) ?_; clear E a; intro a E
        refine zp E (zAi E rfl rfl hb14 rfl) ?_; clear E a; intro a E
        refine zp E (zAd E rfl rfl) ?_; clear E a; intro a E
        refine wpList_nil ?_
        refine zAu ?_
        have hb19n : (c0.toNat : Int) = 47 := hb19n
        have e : c0 = 47 := UInt8.toNat_inj.1 (show c0.toNat = 47 by omega)
        have e2 : behB (c0 :: tl) = nameB (120 :: c0 :: tl) := by simp [behB, e]
        rw [e2]
        exact ⟨S, E.keep (zAa rfl (zAa rfl (zAa rfl zAm)))⟩
      · have hb19n := hb19; replace hb19n := Nrm.nrm hb19n
        iterate 4 (refine zn E hb19 ?_; clear E a; intro a E)
        refine zy E hb14 (zAi E rfl rfl hb19 rfl) ?_; clear E a; intro a E
        refine zp E (zAi E rfl rfl hb14 rfl) ?_; clear E a; intro a E
        refine zp E (zAd E rfl rfl) ?_; clear E a; intro a E
        refine wpList_nil ?_
        refine zAu ?_
        have e : ¬ c0 = 47 := fun q => by subst q; simp at hb19n
        have e2 : behB (c0 :: tl) = false := by simp [behB, e]
        rw [e2]
        exact ⟨S, E.keep (zAa rfl (zAa rfl (zAa rfl zAm)))⟩
  · clear E S a; intro a w J; obtain ⟨S, E⟩ := J
    refine zAf hK ?_; clear hK; clear K
    refine wp_seq_k ?_; intro K hK
    refine zAb ?_
    refine zp E (by first | exact zAg (q := 6) E rfl rfl rfl | exact zAh (q := 6) E rfl rfl rfl) ?_; clear E a; intro a E
    refine zp E (by first | exact zAo E rfl rfl rfl (S.get (by repeat (first | exact pk1 | apply zAc))) rfl | exact zAj E rfl rfl rfl (by assumption)) ?_; clear E a; intro a E
    refine zAp E rfl rfl (by decide) rfl Tryz.func34 rfl (by kernel_rfl) rfl (zLi r.snap (by omega) _ _ S.hp) ?_
    rintro v28 w ⟨rfl, hT⟩; clear E a; intro a E
    have S := S.all hT
    refine zp E (zAd E rfl rfl) ?_; clear E a; intro a E
    refine wpList_nil ?_
    refine zAf hK ?_; clear hK; clear K
    refine wp_seq_k ?_; intro K hK
    refine zDw (fun (a : Act) (w' : World) => ∃ z, (z = true ↔ ((1 ≤ r.typ ∧ r.typ ≤ 2) ∧ (0 ≤ r.frm ∧ r.frm ≤ 2199023255552) ∧ (1 ≤ r.guid ∧ r.guid ≤ 2199023255552))) ∧ St w0 As w' ([(b1, cel [.int .i64 r.kind, str nm, .int .i64 r.typ, .int .i64 r.frm, .int .i64 r.guid, .int .i64 r.origin, str r.snap, .slice ad r.props.length c, .int .i64 r.object, .int .i64 r.at_, .int .i64 r.many, kv, dv] 26)] :: As) ∧ Fr a 130 [(1, ptr b1), (2, .bool false), (3, .bool (behB nm)), (4, .bool (zFv r.snap)), (5, .bool z)]) ?_ ?_
    · skip
      refine zAb ?_
      refine zp E (by first | exact zAg (q := 2) E rfl rfl rfl | exact zAh (q := 2) E rfl rfl rfl) ?_; clear E a; intro a E
      refine zp E (by first | exact zAo E rfl rfl rfl (S.get (by repeat (first | exact pk1 | apply zAc))) rfl | exact zAj E rfl rfl rfl (by assumption)) ?_; clear E a; intro a E
      refine zp E (zEd E rfl rfl rfl) ?_; clear E a; intro a E
      refine zp E (zAe E rfl rfl) ?_; clear E a; intro a E
      refine zAs E (t := 32) rfl (fun hb32 => ?_) (fun hb32 => ?_)
      · have hb32n := hb32; replace hb32n := Nrm.nrm hb32n
        refine zy E hb32 (by first | exact zAg (q := 2) E rfl rfl rfl | exact zAh (q := 2) E rfl rfl rfl) ?_; clear E a; intro a E
        refine zy E hb32 (by first | exact zAo E rfl rfl rfl (S.get (by repeat (first | exact pk1 | apply zAc))) rfl | exact zAj E rfl rfl rfl (by assumption)) ?_; clear E a; intro a E
        refine zy E hb32 (zEi E rfl rfl rfl) ?_; clear E a; intro a E
        refine zp E (zAl E rfl rfl hb32 rfl) ?_; clear E a; intro a E
        refine zp E (zAe E rfl rfl) ?_; clear E a; intro a E
        refine zAs E (t := 37) rfl (fun hb37 => ?_) (fun hb37 => ?_)
        · have hb37n := hb37; replace hb37n := Nrm.nrm hb37n
          refine zy E hb37 (by first | exact zAg (q := 3) E rfl rfl rfl | exact zAh (q := 3) E rfl rfl rfl) ?_; clear E a; intro a E
          refine zy E hb37 (by first | exact zAo E rfl rfl rfl (S.get (by repeat (first | exact pk1 | apply zAc))) rfl | exact zAj E rfl rfl rfl (by assumption)) ?_; clear E a; intro a E
          refine zy E hb37 (zEd E rfl rfl rfl) ?_; clear E a; intro a E
          refine zp E (zAl E rfl rfl hb37 rfl) ?_; clear E a; intro a E
          refine zp E (zAe E rfl rfl) ?_; clear E a; intro a E
          refine zAs E (t := 42) rfl (fun hb42 => ?_) (fun hb42 => ?_)
          · have hb42n := hb42; replace hb42n := Nrm.nrm hb42n
            refine zy E hb42 (by first | exact zAg (q := 3) E rfl rfl rfl | exact zAh (q := 3) E rfl rfl rfl) ?_; clear E a; intro a E
            refine zy E hb42 (by first | exact zAo E rfl rfl rfl (S.get (by repeat (first | exact pk1 | apply zAc))) rfl | exact zAj E rfl rfl rfl (by assumption)) ?_; clear E a; intro a E
            refine zy E hb42 (zEi E rfl rfl rfl) ?_; clear E a; intro a E
            refine zp E (zAl E rfl rfl hb42 rfl) ?_; clear E a; intro a E
            refine zp E (zAe E rfl rfl) ?_; clear E a; intro a E
            refine zAs E (t := 47) rfl (fun hb47 => ?_) (fun hb47 => ?_)
            · have hb47n := hb47; replace hb47n := Nrm.nrm hb47n
              refine zy E hb47 (by first | exact zAg (q := 4) E rfl rfl rfl | exact zAh (q := 4) E rfl rfl rfl) ?_; clear E a; intro a E
              refine zy E hb47 (by first | exact zAo E rfl rfl rfl (S.get (by repeat (first | exact pk1 | apply zAc))) rfl | exact zAj E rfl rfl rfl (by assumption)) ?_; clear E a; intro a E
              refine zy E hb47 (zEd E rfl rfl rfl) ?_; clear E a; intro a E
              refine zp E (zAl E rfl rfl hb47 rfl) ?_; clear E a; intro a E
              refine zp E (zAe E rfl rfl) ?_; clear E a; intro a E
              refine zAs E (t := 52) rfl (fun hb52 => ?_) (fun hb52 => ?_)
              · have hb52n := hb52; replace hb52n := Nrm.nrm hb52n
                refine zy E hb52 (by first | exact zAg (q := 4) E rfl rfl rfl | exact zAh (q := 4) E rfl rfl rfl) ?_; clear E a; intro a E
                refine zy E hb52 (by first | exact zAo E rfl rfl rfl (S.get (by repeat (first | exact pk1 | apply zAc))) rfl | exact zAj E rfl rfl rfl (by assumption)) ?_; clear E a; intro a E
                refine zy E hb52 (zEi E rfl rfl rfl) ?_; clear E a; intro a E
                refine zp E (zAl E rfl rfl hb52 rfl) ?_; clear E a; intro a E
                refine zp E (zAd E rfl rfl) ?_; clear E a; intro a E
                refine wpList_nil ?_
                refine zAu ?_
                exact ⟨_, ⟨fun q => by first | omega | (simp only [decide_eq_true_eq] at q; omega) | (simp at q; omega) | exact Bool.noConfusion q, fun q => by first | rfl | (simp only [decide_eq_true_eq]; omega) | (exfalso; omega) | (simp; omega)⟩, S, E.keep (zAa rfl (zAa rfl (zAa rfl (zAa rfl (zAa rfl zAm)))))⟩
              · have hb52n := hb52; replace hb52n := Nrm.nrm hb52n
                iterate 3 (refine zn E hb52 ?_; clear E a; intro a E)
                refine zp E (zAi E rfl rfl hb52 rfl) ?_; clear E a; intro a E
                refine zp E (zAd E rfl rfl) ?_; clear E a; intro a E
                refine wpList_nil ?_
                refine zAu ?_
                exact ⟨_, ⟨fun q => by first | omega | (simp only [decide_eq_true_eq] at q; omega) | (simp at q; omega) | exact Bool.noConfusion q, fun q => by first | rfl | (simp only [decide_eq_true_eq]; omega) | (exfalso; omega) | (simp; omega)⟩, S, E.keep (zAa rfl (zAa rfl (zAa rfl (zAa rfl (zAa rfl zAm)))))⟩
            · have hb47n := hb47; replace hb47n := Nrm.nrm hb47n
              iterate 3 (refine zn E hb47 ?_; clear E a; intro a E)
              refine zp E (zAi E rfl rfl hb47 rfl) ?_; clear E a; intro a E
              refine zp E (zAe E rfl rfl) ?_; clear E a; intro a E
              iterate 3 (refine zn E rfl ?_; clear E a; intro a E)
              refine zp E (zAi E rfl rfl rfl rfl) ?_; clear E a; intro a E
              refine zp E (zAd E rfl rfl) ?_; clear E a; intro a E
              refine wpList_nil ?_
              refine zAu ?_
              exact ⟨_, ⟨fun q => by first | omega | (simp only [decide_eq_true_eq] at q; omega) | (simp at q; omega) | exact Bool.noConfusion q, fun q => by first | rfl | (simp only [decide_eq_true_eq]; omega) | (exfalso; omega) | (simp; omega)⟩, S, E.keep (zAa rfl (zAa rfl (zAa rfl (zAa rfl (zAa rfl zAm)))))⟩
          · have hb42n := hb42; replace hb42n := Nrm.nrm hb42n
            iterate 3 (refine zn E hb42 ?_; clear E a; intro a E)
            refine zp E (zAi E rfl rfl hb42 rfl) ?_; clear E a; intro a E
            refine zp E (zAe E rfl rfl) ?_; clear E a; intro a E
            iterate 3 (refine zn E rfl ?_; clear E a; intro a E)
            refine zp E (zAi E rfl rfl rfl rfl) ?_; clear E a; intro a E
            refine zp E (zAe E rfl rfl) ?_; clear E a; intro a E
            iterate 3 (refine zn E rfl ?_; clear E a; intro a E)
            refine zp E (zAi E rfl rfl rfl rfl) ?_; clear E a; intro a E
            refine zp E (zAd E rfl rfl) ?_; clear E a; intro a E
            refine wpList_nil ?_
            refine zAu ?_
            exact ⟨_, ⟨fun q => by first | omega | (simp only [decide_eq_true_eq] at q; omega) | (simp at q; omega) | exact Bool.noConfusion q, fun q => by first | rfl | (simp only [decide_eq_true_eq]; omega) | (exfalso; omega) | (simp; omega)⟩, S, E.keep (zAa rfl (zAa rfl (zAa rfl (zAa rfl (zAa rfl zAm)))))⟩
        · have hb37n := hb37; replace hb37n := Nrm.nrm hb37n
          iterate 3 (refine zn E hb37 ?_; clear E a; intro a E)
          refine zp E (zAi E rfl rfl hb37 rfl) ?_; clear E a; intro a E
          refine zp E (zAe E rfl rfl) ?_; clear E a; intro a E
          iterate 3 (refine zn E rfl ?_; clear E a; intro a E)
          refine zp E (zAi E rfl rfl rfl rfl) ?_; clear E a; intro a E
          refine zp E (zAe E rfl rfl) ?_; clear E a; intro a E
          iterate 3 (refine zn E rfl ?_; clear E a; intro a E)
          refine zp E (zAi E rfl rfl rfl rfl) ?_; clear E a; intro a E
          refine zp E (zAe E rfl rfl) ?_; clear E a; intro a E
          iterate 3 (refine zn E rfl ?_; clear E a; intro a E)
          refine zp E (zAi E rfl rfl rfl rfl) ?_; clear E a; intro a E
          refine zp E (zAd E rfl rfl) ?_; clear E a; intro a E
          refine wpList_nil ?_
          refine zAu ?_
          exact ⟨_, ⟨fun q => by first | omega | (simp only [decide_eq_true_eq] at q; omega) | (simp at q; omega) | exact Bool.noConfusion q, fun q => by first | rfl | (simp only [decide_eq_true_eq]; omega) | (exfalso; omega) | (simp; omega)⟩, S, E.keep (zAa rfl (zAa rfl (zAa rfl (zAa rfl (zAa rfl zAm)))))⟩
      · have hb32n := hb32; replace hb32n := Nrm.nrm hb32n
        iterate 3 (refine zn E hb32 ?_; clear E a; intro a E)
        refine zp E (zAi E rfl rfl hb32 rfl) ?_; clear E a; intro a E
        refine zp E (zAe E rfl rfl) ?_; clear E a; intro a E
        iterate 3 (refine zn E rfl ?_; clear E a; intro a E)
        refine zp E (zAi E rfl rfl rfl rfl) ?_; clear E a; intro a E
        refine zp E (zAe E rfl rfl) ?_; clear E a; intro a E
        iterate 3 (refine zn E rfl ?_; clear E a; intro a E)
        refine zp E (zAi E rfl rfl rfl rfl) ?_; clear E a; intro a E
        refine zp E (zAe E rfl rfl) ?_; clear E a; intro a E
        iterate 3 (refine zn E rfl ?_; clear E a; intro a E)
        refine zp E (zAi E rfl rfl rfl rfl) ?_; clear E a; intro a E
        refine zp E (zAe E rfl rfl) ?_; clear E a; intro a E
        iterate 3 (refine zn E rfl ?_; clear E a; intro a E)
        refine zp E (zAi E rfl rfl rfl rfl) ?_; clear E a; intro a E
        refine zp E (zAd E rfl rfl) ?_; clear E a; intro a E
        refine wpList_nil ?_
        refine zAu ?_
        exact ⟨_, ⟨fun q => by first | omega | (simp only [decide_eq_true_eq] at q; omega) | (simp at q; omega) | exact Bool.noConfusion q, fun q => by first | rfl | (simp only [decide_eq_true_eq]; omega) | (exfalso; omega) | (simp; omega)⟩, S, E.keep (zAa rfl (zAa rfl (zAa rfl (zAa rfl (zAa rfl zAm)))))⟩
    · clear E S a; intro a w J; obtain ⟨z1, hz1, S, E⟩ := J
      refine zAf hK ?_; clear hK; clear K
      refine wp_seq_k ?_; intro K hK
      refine zDw (fun (a : Act) (w' : World) => ∃ z, (z = true ↔ (r.origin = 0 ∨ (r.origin = 1 ∧ 0 < r.frm))) ∧ St w0 As w' ([(b1, cel [.int .i64 r.kind, str nm, .int .i64 r.typ, .int .i64 r.frm, .int .i64 r.guid, .int .i64 r.origin, str r.snap, .slice ad r.props.length c, .int .i64 r.object, .int .i64 r.at_, .int .i64 r.many, kv, dv] 26)] :: As) ∧ Fr a 130 [(1, ptr b1), (2, .bool false), (3, .bool (behB nm)), (4, .bool (zFv r.snap)), (5, .bool z1), (6, .bool z)]) ?_ ?_
      · skip
        refine zAb ?_
        refine zp E (by first | exact zAg (q := 5) E rfl rfl rfl | exact zAh (q := 5) E rfl rfl rfl) ?_; clear E a; intro a E
        refine zp E (by first | exact zAo E rfl rfl rfl (S.get (by repeat (first | exact pk1 | apply zAc))) rfl | exact zAj E rfl rfl rfl (by assumption)) ?_; clear E a; intro a E
        refine zp E (by first | exact zCe E rfl rfl rfl | exact zAt E rfl rfl rfl rfl | exact zBd E rfl rfl rfl rfl | exact zAw E rfl rfl rfl) ?_; clear E a; intro a E
        refine zp E (zAe E rfl rfl) ?_; clear E a; intro a E
        refine zAs E (t := 60) rfl (fun hb60 => ?_) (fun hb60 => ?_)
        · have hb60n := hb60; replace hb60n := Nrm.nrm hb60n
          iterate 4 (refine zn E hb60 ?_; clear E a; intro a E)
          iterate 3 (refine zu E ?_; clear E a; intro a E)
          refine zn E hb60 ?_; clear E a; intro a E
          refine zp E (zAl E rfl rfl hb60 rfl) ?_; clear E a; intro a E
          refine zp E (zAd E rfl rfl) ?_; clear E a; intro a E
          refine wpList_nil ?_
          refine zAu ?_
          exact ⟨_, ⟨fun q => by first | omega | (simp only [decide_eq_true_eq] at q; omega) | (simp at q; omega) | exact Bool.noConfusion q, fun q => by first | rfl | (simp only [decide_eq_true_eq]; omega) | (exfalso; omega) | (simp; omega)⟩, S, E.keep (zAa rfl (zAa rfl (zAa rfl (zAa rfl (zAa rfl (zAa rfl zAm))))))⟩
        · have hb60n := hb60; replace hb60n := Nrm.nrm hb60n
          refine zy E hb60 (by first | exact zAg (q := 5) E rfl rfl rfl | exact zAh (q := 5) E rfl rfl rfl) ?_; clear E a; intro a E
          refine zy E hb60 (by first | exact zAo E rfl rfl rfl (S.get (by repeat (first | exact pk1 | apply zAc))) rfl | exact zAj E rfl rfl rfl (by assumption)) ?_; clear E a; intro a E
          refine zy E hb60 (by first | exact zCe E rfl rfl rfl | exact zAt E rfl rfl rfl rfl | exact zBd E rfl rfl rfl rfl | exact zAw E rfl rfl rfl) ?_; clear E a; intro a E
          refine zy E hb60 (zAe E rfl rfl) ?_; clear E a; intro a E
          refine zAs E (t := 64) rfl (fun hb64 => ?_) (fun hb64 => ?_)
          · have hb64n := hb64; replace hb64n := Nrm.nrm hb64n
            refine zy E hb64 (by first | exact zAg (q := 3) E rfl rfl rfl | exact zAh (q := 3) E rfl rfl rfl) ?_; clear E a; intro a E
            refine zy E hb64 (by first | exact zAo E rfl rfl rfl (S.get (by repeat (first | exact pk1 | apply zAc))) rfl | exact zAj E rfl rfl rfl (by assumption)) ?_; clear E a; intro a E
            refine zy E hb64 (zDm E rfl rfl rfl) ?_; clear E a; intro a E
            refine zy E hb60 (zAl E rfl rfl hb64 rfl) ?_; clear E a; intro a E
            refine zp E (zAi E rfl rfl hb60 rfl) ?_; clear E a; intro a E
            refine zp E (zAd E rfl rfl) ?_; clear E a; intro a E
            refine wpList_nil ?_
            refine zAu ?_
            exact ⟨_, ⟨fun q => by first | omega | (simp only [decide_eq_true_eq] at q; omega) | (simp at q; omega) | exact Bool.noConfusion q, fun q => by first | rfl | (simp only [decide_eq_true_eq]; omega) | (exfalso; omega) | (simp; omega)⟩, S, E.keep (zAa rfl (zAa rfl (zAa rfl (zAa rfl (zAa rfl (zAa rfl zAm))))))⟩
          · have hb64n := hb64; replace hb64n := Nrm.nrm hb64n
            iterate 3 (refine zn E hb64 ?_; clear E a; intro a E)
            refine zy E hb60 (zAi E rfl rfl hb64 rfl) ?_; clear E a; intro a E
            refine zp E (zAi E rfl rfl hb60 rfl) ?_; clear E a; intro a E
            refine zp E (zAd E rfl rfl) ?_; clear E a; intro a E
            refine wpList_nil ?_
            refine zAu ?_
            exact ⟨_, ⟨fun q => by first | omega | (simp only [decide_eq_true_eq] at q; omega) | (simp at q; omega) | exact Bool.noConfusion q, fun q => by first | rfl | (simp only [decide_eq_true_eq]; omega) | (exfalso; omega) | (simp; omega)⟩, S, E.keep (zAa rfl (zAa rfl (zAa rfl (zAa rfl (zAa rfl (zAa rfl zAm))))))⟩
      · clear E S a; intro a w J; obtain ⟨z2, hz2, S, E⟩ := J
        refine zAf hK ?_; clear hK; clear K
        iterate 2 (refine wp_seq_k ?_; intro K hK)
        refine zDw (fun (a : Act) (w' : World) => ∃ z, (z = true ↔ ¬ (behB nm = true ∧ zFv r.snap = true ∧ z1 = true ∧ z2 = true ∧ r.props.length ≤ 12)) ∧ St w0 As w' ([(b1, cel [.int .i64 r.kind, str nm, .int .i64 r.typ, .int .i64 r.frm, .int .i64 r.guid, .int .i64 r.origin, str r.snap, .slice ad r.props.length c, .int .i64 r.object, .int .i64 r.at_, .int .i64 r.many, kv, dv] 26)] :: As) ∧ Fr a 130 [(1, ptr b1), (2, .bool false), (89, .bool z)]) ?_ ?_
        · skip
          refine zAb ?_
          refine zp E (zAe E rfl rfl) ?_; clear E a; intro a E
          refine zp E (zDq E rfl rfl) ?_; clear E a; intro a E
          refine zp E (zAe E rfl rfl) ?_; clear E a; intro a E
          refine zAs E (t := 72) rfl (fun hb72 => ?_) (fun hb72 => ?_)
          · have hb72n := hb72; replace hb72n := Nrm.nrm hb72n
            iterate 2 (refine zn E hb72 ?_; clear E a; intro a E)
            refine zp E (zAl E rfl rfl hb72 rfl) ?_; clear E a; intro a E
            refine zp E (zAe E rfl rfl) ?_; clear E a; intro a E
            iterate 2 (refine zn E rfl ?_; clear E a; intro a E)
            refine zp E (zAl E rfl rfl rfl rfl) ?_; clear E a; intro a E
            refine zp E (zAe E rfl rfl) ?_; clear E a; intro a E
            iterate 2 (refine zn E rfl ?_; clear E a; intro a E)
            refine zp E (zAl E rfl rfl rfl rfl) ?_; clear E a; intro a E
            refine zp E (zAe E rfl rfl) ?_; clear E a; intro a E
            iterate 4 (refine zn E rfl ?_; clear E a; intro a E)
            refine zp E (zAl E rfl rfl rfl rfl) ?_; clear E a; intro a E
            refine wpList_nil ?_
            refine zAu ?_
            exact ⟨_, by clear S E hz1 hz2 hnm hcells hR hs H; simp_all <;> omega, S, E.keep (zAa rfl (zAa rfl (zAa rfl zAm)))⟩
          · have hb72n := hb72; replace hb72n := Nrm.nrm hb72n
            refine zy E hb72 (zAe E rfl rfl) ?_; clear E a; intro a E
            refine zy E hb72 (zDq E rfl rfl) ?_; clear E a; intro a E
            refine zp E (zAi E rfl rfl hb72 rfl) ?_; clear E a; intro a E
            refine zp E (zAe E rfl rfl) ?_; clear E a; intro a E
            refine zAs E (t := 76) rfl (fun hb76 => ?_) (fun hb76 => ?_)
            · have hb76n := hb76; replace hb76n := Nrm.nrm hb76n
              iterate 2 (refine zn E hb76 ?_; clear E a; intro a E)
              refine zp E (zAl E rfl rfl hb76 rfl) ?_; clear E a; intro a E
              refine zp E (zAe E rfl rfl) ?_; clear E a; intro a E
              iterate 2 (refine zn E rfl ?_; clear E a; intro a E)
              refine zp E (zAl E rfl rfl rfl rfl) ?_; clear E a; intro a E
              refine zp E (zAe E rfl rfl) ?_; clear E a; intro a E
              iterate 4 (refine zn E rfl ?_; clear E a; intro a E)
              refine zp E (zAl E rfl rfl rfl rfl) ?_; clear E a; intro a E
              refine wpList_nil ?_
              refine zAu ?_
              exact ⟨_, by clear S E hz1 hz2 hnm hcells hR hs H; simp_all <;> omega, S, E.keep (zAa rfl (zAa rfl (zAa rfl zAm)))⟩
            · have hb76n := hb76; replace hb76n := Nrm.nrm hb76n
              refine zy E hb76 (zAe E rfl rfl) ?_; clear E a; intro a E
              refine zy E hb76 (zDq E rfl rfl) ?_; clear E a; intro a E
              refine zp E (zAi E rfl rfl hb76 rfl) ?_; clear E a; intro a E
              refine zp E (zAe E rfl rfl) ?_; clear E a; intro a E
              refine zAs E (t := 80) rfl (fun hb80 => ?_) (fun hb80 => ?_)
              · have hb80n := hb80; replace hb80n := Nrm.nrm hb80n
                iterate 2 (refine zn E hb80 ?_; clear E a; intro a E)
                refine zp E (zAl E rfl rfl hb80 rfl) ?_; clear E a; intro a E
                refine zp E (zAe E rfl rfl) ?_; clear E a; intro a E
                iterate 4 (refine zn E rfl ?_; clear E a; intro a E)
                refine zp E (zAl E rfl rfl rfl rfl) ?_; clear E a; intro a E
                refine wpList_nil ?_
                refine zAu ?_
                exact ⟨_, by clear S E hz1 hz2 hnm hcells hR hs H; simp_all <;> omega, S, E.keep (zAa rfl (zAa rfl (zAa rfl zAm)))⟩
              · have hb80n := hb80; replace hb80n := Nrm.nrm hb80n
                refine zy E hb80 (zAe E rfl rfl) ?_; clear E a; intro a E
                refine zy E hb80 (zDq E rfl rfl) ?_; clear E a; intro a E
                refine zp E (zAi E rfl rfl hb80 rfl) ?_; clear E a; intro a E
                refine zp E (zAe E rfl rfl) ?_; clear E a; intro a E
                refine zAs E (t := 84) rfl (fun hb84 => ?_) (fun hb84 => ?_)
                · have hb84n := hb84; replace hb84n := Nrm.nrm hb84n
                  iterate 4 (refine zn E hb84 ?_; clear E a; intro a E)
                  refine zp E (zAl E rfl rfl hb84 rfl) ?_; clear E a; intro a E
                  refine wpList_nil ?_
                  refine zAu ?_
                  exact ⟨_, by clear S E hz1 hz2 hnm hcells hR hs H; simp_all <;> omega, S, E.keep (zAa rfl (zAa rfl (zAa rfl zAm)))⟩
                · have hb84n := hb84; replace hb84n := Nrm.nrm hb84n
                  refine zy E hb84 (by first | exact zAg (q := 7) E rfl rfl rfl | exact zAh (q := 7) E rfl rfl rfl) ?_; clear E a; intro a E
                  refine zy E hb84 (by first | exact zAo E rfl rfl rfl (S.get (by repeat (first | exact pk1 | apply zAc))) rfl | exact zAj E rfl rfl rfl (by assumption)) ?_; clear E a; intro a E
                  refine zy E hb84 (by first | exact zBx E rfl rfl rfl | exact zAx E rfl rfl rfl | exact zAq E rfl rfl rfl) ?_; clear E a; intro a E
                  refine zy E hb84 (zDm E rfl rfl rfl) ?_; clear E a; intro a E
                  refine zp E (zAi E rfl rfl hb84 rfl) ?_; clear E a; intro a E
                  refine wpList_nil ?_
                  refine zAu ?_
                  exact ⟨_, by clear S E hz1 hz2 hnm hcells hR hs H; simp_all <;> omega, S, E.keep (zAa rfl (zAa rfl (zAa rfl zAm)))⟩
        · clear E S a; intro a w J; obtain ⟨z3, hz3, S, E⟩ := J
          refine zAf hK ?_; clear hK; clear K
          refine zBf E rfl (fun hb => ?_) (fun hb => ?_)
          · replace hb := Nrm.nrm hb
            refine wp_seq_k ?_; intro K hK
            refine zAb ?_
            refine zp E (zAd E rfl rfl) ?_; clear E a; intro a E
            refine wpList_nil ?_
            refine zAf hK ?_; clear hK; clear K
            refine wp_ret ?_
            refine zAv ?_; clear hK; clear K
            refine ret1 E rfl rfl ?_
            refine ⟨_, rfl, ?_, S.tail.tr⟩
            rw [beg_no]
            rintro ⟨q1, q2, q3, q4, q5, q6, q7⟩
            exact hz3.1 hb ⟨by rw [hnm]; exact q1, q6, hz1.2 ⟨q2, q3, q4⟩, hz2.2 q5, ((zHn _).1 q7).1⟩
          · replace hb := Nrm.nrm hb
            refine wp_skip ?_
            refine zAf hK ?_; clear hK; clear K
            iterate 2 (refine wp_seq_k ?_; intro K hK)
            have hok : behB nm = true ∧ zFv r.snap = true ∧ z1 = true ∧ z2 = true ∧ r.props.length ≤ 12 := Classical.byContradiction fun q => by rw [hz3.2 q] at hb; cases hb
            refine zAb ?_
            refine zp E (zAd E rfl rfl) ?_; clear E a; intro a E
            refine wpList_nil ?_
            refine zAf hK ?_; clear hK; clear K
            refine wp_block ?_
            refine wp_loop_ghost (fun (m : Nat) (a : Act) (w' : World) => ∃ i : Nat, m = r.props.length - i ∧ i ≤ r.props.length ∧ (∀ k, ∀ hk : k < r.props.length, k < i → zIa r.props k hk) ∧ St w0 As w' ([(b1, cel [.int .i64 r.kind, str nm, .int .i64 r.typ, .int .i64 r.frm, .int .i64 r.guid, .int .i64 r.origin, str r.snap, .slice ad r.props.length c, .int .i64 r.object, .int .i64 r.at_, .int .i64 r.many, kv, dv] 26)] :: As) ∧ Fr a 130 [(1, ptr b1), (2, .bool false), (7, .int .i64 i)]) (r.props.length) ?_ ?_
            · exact ⟨0, by omega, by omega, by intro k _ h; omega, S, E.keep (zAa rfl (zAa rfl (zAa rfl zAm)))⟩
            clear E; clear a; (try clear S); rintro m a w ⟨i, rfl, hi, hpk, S, E⟩
            iterate 2 (refine wp_seq_k ?_; intro K hK)
            refine zAb ?_
            refine zp E (zAe E rfl rfl) ?_; clear E a; intro a E
            refine zp E (by first | exact zAg (q := 7) E rfl rfl rfl | exact zAh (q := 7) E rfl rfl rfl) ?_; clear E a; intro a E
            refine zp E (by first | exact zAo E rfl rfl rfl (S.get (by repeat (first | exact pk1 | apply zAc))) rfl | exact zAj E rfl rfl rfl (by assumption)) ?_; clear E a; intro a E
            refine zp E (by first | exact zBx E rfl rfl rfl | exact zAx E rfl rfl rfl | exact zAq E rfl rfl rfl) ?_; clear E a; intro a E
            refine zp E (zCn E rfl rfl rfl) ?_; clear E a; intro a E
            refine wpList_nil ?_
            refine zAf hK ?_; clear hK; clear K
            refine zBf E rfl (fun hb => ?_) (fun hb => ?_)
            · replace hb := Nrm.nrm hb
              refine wp_skip ?_
              refine zAf hK ?_; clear hK; clear K
              refine wp_seq_k ?_; intro K hK
              refine wp_block ?_
              refine wp_seq_k ?_; intro K hK
              have hil : i < r.props.length := by omega
              obtain ⟨b, off, rfl⟩ := hp.addr (by omega)
              have hsi := hs.prop _ (List.getElem_mem hil)
              have hcl := hp.elem (lay := Prp.lay) Prp.lay_len (S.stab.at (List.Mem.tail _ hC)) hil
              obtain ⟨p, hpe⟩ : ∃ p, p = r.props[i] := ⟨_, rfl⟩
              rw [← hpe] at hsi hcl
              obtain ⟨pn, pvl⟩ := p
              simp only at hsi
              refine zAb ?_
              refine zp E (by first | exact zAg (q := 7) E rfl rfl rfl | exact zAh (q := 7) E rfl rfl rfl) ?_; clear E a; intro a E
              refine zp E (by first | exact zAo E rfl rfl rfl (S.get (by repeat (first | exact pk1 | apply zAc))) rfl | exact zAj E rfl rfl rfl (by assumption)) ?_; clear E a; intro a E
              refine zp E (zAe E rfl rfl) ?_; clear E a; intro a E
              refine zp E (by first | exact zBl E rfl rfl rfl rfl rfl rfl (by omega) | exact zBv E rfl rfl rfl rfl rfl rfl (by omega) | exact zBj E rfl rfl rfl rfl rfl rfl (by omega)) ?_; clear E a; intro a E
              refine zp E (zDo (vs := [_, _]) E rfl rfl rfl rfl (hcl)) ?_; clear E a; intro a E
              refine zAn rfl (zBs E S rfl rfl (by decide) rfl rfl rfl ?_); clear E S a; intro a w b8 E S
              refine zAn rfl (zAz E S rfl rfl rfl rfl (by simp [Value.oneCell']) rfl (by repeat (first | exact pk1 | apply zAc)) (by simp) ?_); clear E S a; intro a w E S; simp only [List.take_succ_cons, List.take_zero, List.drop_succ_cons, List.drop_zero, List.cons_append, List.nil_append, List.append_nil, List.length_cons, List.length_nil, Nat.zero_add, Nat.add_zero] at S
              refine wpList_nil ?_
              refine zAf hK ?_; clear hK; clear K
              refine wp_seq_k ?_; intro K hK
              refine zAb ?_
              refine zp E (by first | exact zAg (q := 0) E rfl rfl rfl | exact zAh (q := 0) E rfl rfl rfl) ?_; clear E a; intro a E
              refine zp E (by first | exact zAo E rfl rfl rfl (S.get (by repeat (first | exact pk1 | apply zAc))) rfl | exact zAj E rfl rfl rfl (by assumption)) ?_; clear E a; intro a E
              refine zAp E rfl rfl (by decide) rfl Tryz.func34 rfl (by kernel_rfl) rfl (zLi pn (by omega) _ _ S.hp) ?_
              rintro v104 w ⟨rfl, hT⟩; clear E a; intro a E
              have S := S.all hT
              refine zp E (zAd E rfl rfl) ?_; clear E a; intro a E
              refine wpList_nil ?_
              refine zAf hK ?_; clear hK; clear K
              refine wp_seq_k ?_; intro K hK
              refine zAb ?_
              refine zp E (by first | exact zAg (q := 1) E rfl rfl rfl | exact zAh (q := 1) E rfl rfl rfl) ?_; clear E a; intro a E
              refine zp E (by first | exact zAo E rfl rfl rfl (S.get (by repeat (first | exact pk1 | apply zAc))) rfl | exact zAj E rfl rfl rfl (by assumption)) ?_; clear E a; intro a E
              refine zAp E rfl rfl (by decide) rfl Tryz.func80 rfl (by kernel_rfl) rfl (uvalue20_ret pvl (by omega) _ _ S.hp) ?_
              rintro v107 w ⟨rfl, hT⟩; clear E a; intro a E
              have S := S.all hT
              refine zp E (zAd E rfl rfl) ?_; clear E a; intro a E
              refine wpList_nil ?_
              refine zAf hK ?_; clear hK; clear K
              refine wp_seq_k ?_; intro K hK
              refine zDw (fun (a : Act) (w' : World) => ∃ z, (z = true ↔ ¬ zIa r.props i hil) ∧ St w0 As w' ([(b8, cel [str pn, str pvl] 70)] :: [(b1, cel [.int .i64 r.kind, str nm, .int .i64 r.typ, .int .i64 r.frm, .int .i64 r.guid, .int .i64 r.origin, str r.snap, .slice (some ⟨b, off, none⟩) r.props.length c, .int .i64 r.object, .int .i64 r.at_, .int .i64 r.many, kv, dv] 26)] :: As) ∧ Fr a 130 [(1, ptr b1), (2, .bool false), (7, .int .i64 i), (129, .bool z)]) ?_ ?_
              · skip
                refine zCz S (.ofL [(0, 0), (1, 0), (2, 0), (3, 0), (4, 0), (5, 0), (6, 0), (7, 0), (8, 0), (9, 0), (10, 0), (11, 0), (12, 0), (13, 0), (14, 0), (15, 0), (16, 0), (17, 0), (18, 0), (19, 0), (20, 0), (21, 0)]) [C, [(b8, cel [str pn, str pvl] 70)], [(b1, cel [.int .i64 r.kind, str nm, .int .i64 r.typ, .int .i64 r.frm, .int .i64 r.guid, .int .i64 r.origin, str r.snap, .slice (some ⟨b, off, none⟩) r.props.length c, .int .i64 r.object, .int .i64 r.at_, .int .i64 r.many, kv, dv] 26)]] (fun h => h.sub (by first | (simp; done) | (simp +contextual; done) | (simp [*]; done))) (by kernel_rfl) (by kernel_rfl) ?_
                clear S; intro w S
                refine zm E rfl (fun w h => zAe E rfl rfl) ?_; clear E a; intro a E
                refine zm E rfl (fun w h => zDq E rfl rfl) ?_; clear E a; intro a E
                refine zm E rfl (fun w h => zAe E rfl rfl) ?_; clear E a; intro a E
                refine zAs E (t := 110) rfl (fun hb110 => ?_) (fun hb110 => ?_)
                · have hb110n := hb110; replace hb110n := Nrm.nrm hb110n
                  iterate 2 (refine zCd E rfl rfl rfl rfl rfl hb110 rfl (by decide) ?_; clear E a; intro a E)
                  refine zm E rfl (fun w h => zAl E rfl rfl hb110 rfl) ?_; clear E a; intro a E
                  refine zm E rfl (fun w h => zAe E rfl rfl) ?_; clear E a; intro a E
                  iterate 3 (refine zCd E rfl rfl rfl rfl rfl rfl rfl (by decide) ?_; clear E a; intro a E)
                  iterate 10 (refine zDv E rfl rfl rfl rfl rfl rfl (by decide) ?_; clear E a; intro a E)
                  refine zCd E rfl rfl rfl rfl rfl rfl rfl (by decide) ?_; clear E a; intro a E
                  refine zm E rfl (fun w h => zAl E rfl rfl rfl rfl) ?_; clear E a; intro a E
                  refine zBw ?_
                  refine zAu ?_
                  refine ⟨_, ?_, S, E.keep (zAa rfl (zAa rfl (zAa rfl (zAa rfl zAm))))⟩
                  clear S E hcl hR hs H hz1 hz2 hz3 hcells
                  unfold zIa
                  rw [← hpe]
                  first
                    | (simp_all; done)
                    | (clear hT hp hpk; simp_all <;> (intro q1 q2 q3; exfalso; rcases hb114 with (e | e) | e; subst e; simp at q1; omega; rw [e] at q3; cases q3))
                · have hb110n := hb110; replace hb110n := Nrm.nrm hb110n
                  refine zBa E rfl rfl rfl rfl rfl hb110 rfl (by decide) (fun w h => zAe E rfl rfl) ?_; clear E a; intro a E
                  refine zBa E rfl rfl rfl rfl rfl hb110 rfl (by decide) (fun w h => zDq E rfl rfl) ?_; clear E a; intro a E
                  refine zm E rfl (fun w h => zAi E rfl rfl hb110 rfl) ?_; clear E a; intro a E
                  refine zm E rfl (fun w h => zAe E rfl rfl) ?_; clear E a; intro a E
                  refine zAs E (t := 114) rfl (fun hb114 => ?_) (fun hb114 => ?_)
                  · have hb114n := hb114; replace hb114n := Nrm.nrm hb114n
                    iterate 3 (refine zCd E rfl rfl rfl rfl rfl hb114 rfl (by decide) ?_; clear E a; intro a E)
                    iterate 10 (refine zDv E rfl rfl rfl rfl rfl rfl (by decide) ?_; clear E a; intro a E)
                    refine zCd E rfl rfl rfl rfl rfl hb114 rfl (by decide) ?_; clear E a; intro a E
                    refine zm E rfl (fun w h => zAl E rfl rfl hb114 rfl) ?_; clear E a; intro a E
                    refine zBw ?_
                    refine zAu ?_
                    refine ⟨_, ?_, S, E.keep (zAa rfl (zAa rfl (zAa rfl (zAa rfl zAm))))⟩
                    clear S E hcl hR hs H hz1 hz2 hz3 hcells
                    unfold zIa
                    rw [← hpe]
                    first
                      | (simp_all; done)
                      | (clear hT hp hpk; simp_all <;> (intro q1 q2 q3; exfalso; rcases hb114 with (e | e) | e; subst e; simp at q1; omega; rw [e] at q3; cases q3))
                  · have hb114n := hb114; replace hb114n := Nrm.nrm hb114n
                    refine zBa E rfl rfl rfl rfl rfl hb114 rfl (by decide) (fun w h => zAe E rfl rfl) ?_; clear E a; intro a E
                    refine zBa E rfl rfl rfl rfl rfl hb114 rfl (by decide) (fun w h => zDm E rfl rfl rfl) ?_; clear E a; intro a E
                    refine zBa E rfl rfl rfl rfl rfl hb114 rfl (by decide) (fun w h => zAe E rfl rfl) ?_; clear E a; intro a E
                    refine zAs E (t := 117) rfl (fun hb117 => ?_) (fun hb117 => ?_)
                    · have hb117n := hb117; replace hb117n := Nrm.nrm hb117n
                      refine zBa E rfl rfl rfl rfl rfl hb117 rfl (by decide) (fun w h => by first | exact zAg (q := 7) E rfl rfl rfl | exact zAh (q := 7) E rfl rfl rfl) ?_; clear E a; intro a E
                      refine zBa E rfl rfl rfl rfl rfl hb117 rfl (by decide) (fun w h => by first | exact zAo E rfl rfl rfl (h.one (by repeat (first | exact mm1 | assumption | apply List.Mem.tail))) rfl | exact zAj E rfl rfl rfl (by assumption)) ?_; clear E a; intro a E
                      refine zBa E rfl rfl rfl rfl rfl hb117 rfl (by decide) (fun w h => zAe E rfl rfl) ?_; clear E a; intro a E
                      refine zBa E rfl rfl rfl rfl rfl hb117 rfl (by decide) (fun w h => zDs E rfl rfl rfl (by first | exact zGa (y := 1) (by omega) (by omega) | exact w_in (by omega) | exact zBt (by omega) | exact rfl)) ?_; clear E a; intro a E
                      refine zBa E rfl rfl rfl rfl rfl hb117 rfl (by decide) (fun w h => by first | exact zBl E rfl rfl rfl rfl rfl rfl (by omega) | exact zBv E rfl rfl rfl rfl rfl rfl (by omega) | exact zBj E rfl rfl rfl rfl rfl rfl (by omega)) ?_; clear E a; intro a E
                      refine zBa E rfl rfl rfl rfl rfl hb117 rfl (by decide) (fun w h => by first | exact zAg (q := 0) E rfl rfl rfl | exact zAh (q := 0) E rfl rfl rfl) ?_; clear E a; intro a E
                      refine zBa E rfl rfl rfl rfl rfl hb117 rfl (by decide) (fun w h => zAj E rfl rfl rfl (hp.elem (lay := Prp.lay) Prp.lay_len (h.at (by repeat (first | exact mm1 | assumption | apply List.Mem.tail))) (i := i - 1) (by omega) 0 _ rfl)) ?_; clear E a; intro a E
                      refine zBa E rfl rfl rfl rfl rfl hb117 rfl (by decide) (fun w h => by first | exact zAg (q := 0) E rfl rfl rfl | exact zAh (q := 0) E rfl rfl rfl) ?_; clear E a; intro a E
                      refine zBa E rfl rfl rfl rfl rfl hb117 rfl (by decide) (fun w h => by first | exact zAo E rfl rfl rfl (h.one (by repeat (first | exact mm1 | assumption | apply List.Mem.tail))) rfl | exact zAj E rfl rfl rfl (by assumption)) ?_; clear E a; intro a E
                      refine zBa E rfl rfl rfl rfl rfl hb117 rfl (by decide) (fun w h => zIq E rfl rfl rfl) ?_; clear E a; intro a E
                      refine zBa E rfl rfl rfl rfl rfl hb114 rfl (by decide) (fun w h => zAl E rfl rfl hb117 rfl) ?_; clear E a; intro a E
                      refine zm E rfl (fun w h => zAi E rfl rfl hb114 rfl) ?_; clear E a; intro a E
                      refine zBw ?_
                      refine zAu ?_
                      refine ⟨_, ?_, S, E.keep (zAa rfl (zAa rfl (zAa rfl (zAa rfl zAm))))⟩
                      clear S E hcl hR hs H hz1 hz2 hz3 hcells
                      unfold zIa
                      rw [← hpe]
                      first
                        | (simp_all; done)
                        | (clear hT hp hpk; simp_all <;> (intro q1 q2 q3; exfalso; rcases hb114 with (e | e) | e; subst e; simp at q1; omega; rw [e] at q3; cases q3))
                    · have hb117n := hb117; replace hb117n := Nrm.nrm hb117n
                      iterate 10 (refine zCd E rfl rfl rfl rfl rfl hb117 rfl (by decide) ?_; clear E a; intro a E)
                      refine zBa E rfl rfl rfl rfl rfl hb114 rfl (by decide) (fun w h => zAi E rfl rfl hb117 rfl) ?_; clear E a; intro a E
                      refine zm E rfl (fun w h => zAi E rfl rfl hb114 rfl) ?_; clear E a; intro a E
                      refine zBw ?_
                      refine zAu ?_
                      refine ⟨_, ?_, S, E.keep (zAa rfl (zAa rfl (zAa rfl (zAa rfl zAm))))⟩
                      clear S E hcl hR hs H hz1 hz2 hz3 hcells
                      unfold zIa
                      rw [← hpe]
                      first
                        | (simp_all; done)
                        | (clear hT hp hpk; simp_all <;> (intro q1 q2 q3; exfalso; rcases hb114 with (e | e) | e; subst e; simp at q1; omega; rw [e] at q3; cases q3))
              · clear E S a; intro a w J; obtain ⟨z, hz, S, E⟩ := J
                refine zAf hK ?_; clear hK; clear K
                refine zBf E rfl (fun hb => ?_) (fun hb => ?_)
                · replace hb := Nrm.nrm hb
                  refine wp_seq_k ?_; intro K hK
                  refine zAb ?_
                  refine zp E (zAd E rfl rfl) ?_; clear E a; intro a E
                  refine wpList_nil ?_
                  refine zAf hK ?_; clear hK; clear K
                  refine wp_ret ?_
                  refine zCm ?_
                  refine zAv ?_; clear hK; clear K
                  refine zAv ?_
                  refine zCm ?_
                  refine zAv ?_; clear hK; clear K
                  refine ret1 E rfl rfl ?_
                  exact ⟨_, rfl, by rw [beg_no fun q => hz.1 hb (((zHn _).1 q.2.2.2.2.2.2).2 i hil)], S.tail2.tr⟩
                · replace hb := Nrm.nrm hb
                  refine wp_skip ?_
                  refine zBi ?_
                  refine zAf hK ?_; clear hK; clear K
                  refine zAb ?_
                  refine zp E (zAe E rfl rfl) ?_; clear E a; intro a E
                  refine zp E (zBu E rfl rfl rfl (by first | exact zCl (y := 1) (by omega) | exact w_in (by omega) | exact zBt (by omega) | exact rfl)) ?_; clear E a; intro a E
                  refine zp E (zAd E rfl rfl) ?_; clear E a; intro a E
                  refine wpList_nil ?_
                  refine zBq ?_
                  exact ⟨_, by omega, i + 1, rfl, by omega, zGu hpk hil (Classical.byContradiction fun q => by rw [hz.2 q] at hb; cases hb), S.tail, E.keep (zAa rfl (zAa rfl (zAa rfl zAm)))⟩
            · replace hb := Nrm.nrm hb
              refine wp_exit ?_
              refine zBc ?_; clear hK; clear K
              refine zBc ?_
              refine zCj ?_
              refine zAf hK ?_; clear hK; clear K
              refine wp_seq_k ?_; intro K hK
              refine zAb ?_
              refine zp E (zAd E rfl rfl) ?_; clear E a; intro a E
              refine wpList_nil ?_
              refine zAf hK ?_; clear hK; clear K
              refine wp_ret ?_
              refine ret1 E rfl rfl ?_
              obtain ⟨q1, q2, q3, q4, q5⟩ := hok
              obtain ⟨g1, g2, g3⟩ := hz1.1 q3
              refine ⟨_, rfl, ?_, S.tail.tr⟩
              rw [(zEh r).2 ⟨by rw [← hnm]; exact q1, g1, g2, g3, hz2.1 q4, q2, (zHn _).2 ⟨q5, fun k hk => hpk k hk (by omega)⟩⟩]
omit hR hs hC H in
theorem only_e {m : Nat} (h : zDb (zEa r) = true ↔ zGg r m = true) : zDb (zEa r) = zGg r m := by rw [Bool.eq_iff_iff]; exact h
omit hR hs hC H in
theorem ck1 (h : r.kind = 1) : ckB r = (zGg r 3 && (zFv r.name && decide (1 ≤ r.many ∧ r.many ≤ 120))) := by
  have e : zDb (zEa r) = zGg r 3 := only_e (by
    rw [bare1 h]
    simp [zDb, zGg, zIm, msk, zJp, List.range, List.range.loop, Nat.testBit, Nat.shiftRight_eq_div_pow, List.length_eq_zero_iff]
    clear h; grind)
  simp only [ckB, inK, mayK, h, e, may1]; simp [Bool.and_comm]
omit hR hs hC H in
theorem ck2 (h : r.kind = 2) : ckB r = (zGg r 253 && begB r) := by
  have e : zDb (zEa r) = zGg r 253 := only_e (by
    rw [bare2 h]
    simp [zDb, zGg, zIm, msk, zJp, List.range, List.range.loop, Nat.testBit, Nat.shiftRight_eq_div_pow, List.length_eq_zero_iff]
    clear h; grind)
  simp only [ckB, inK, mayK, h, e]; simp [Bool.and_comm]
omit hR hs hC H in
theorem ck3 (h : r.kind = 3) : ckB r = (zGg r 1024 && risB r.keep 1 1048576) := by
  have e : zDb (zEa r) = zGg r 1024 := only_e (by
    rw [bare3 h]
    simp [zDb, zGg, zIm, msk, zJp, List.range, List.range.loop, Nat.testBit, Nat.shiftRight_eq_div_pow, List.length_eq_zero_iff]
    clear h; grind)
  simp only [ckB, inK, mayK, h, e, may3]; simp [Bool.and_comm]
omit hR hs hC H in
theorem ck4 (h : r.kind = 4) : ckB r = (zGg r 1280 && may4 r) := by
  have e : zDb (zEa r) = zGg r 1280 := only_e (by
    rw [bare4 h]
    simp [zDb, zGg, zIm, msk, zJp, List.range, List.range.loop, Nat.testBit, Nat.shiftRight_eq_div_pow, List.length_eq_zero_iff]
    clear h; grind)
  simp only [ckB, inK, mayK, h, e]; simp [Bool.and_comm]
omit hR hs hC H in
theorem ck5 (h : r.kind = 5) : ckB r = (zGg r 2816 && may5 r) := by
  have e : zDb (zEa r) = zGg r 2816 := only_e (by
    rw [bare5 h]
    simp [zDb, zGg, zIm, msk, zJp, List.range, List.range.loop, Nat.testBit, Nat.shiftRight_eq_div_pow, List.length_eq_zero_iff]
    clear h; grind)
  simp only [ckB, inK, mayK, h, e]; simp [Bool.and_comm]
omit hR hs hC H in
theorem ck6 (h : r.kind = 6 ∨ r.kind = 7) : ckB r = (zGg r 2 && may6 r) := by
  have e : zDb (zEa r) = zGg r 2 := only_e (by
    rw [bare6 (by omega) (by omega) (by omega) (by omega) (by omega)]
    simp [zDb, zGg, zIm, msk, zJp, List.range, List.range.loop, Nat.testBit, Nat.shiftRight_eq_div_pow, List.length_eq_zero_iff]
    clear h; grind)
  rcases h with h | h <;> simp only [ckB, inK, mayK, h, e] <;> simp [Bool.and_comm]
omit hR hs hC H in
theorem ck0 (h : ¬ inK r.kind) : ckB r = false := by simp [ckB, h]
end
end Go.Proofs.YtbogecljkaimdaaGreatDoor
namespace Go.Proofs.YtbogecljkaimdaaGreatDoor
open Go.Sl
set_option maxRecDepth 10000
section
variable {C : zAy} {r : Rec} {pv kv dv : Value} (hR : RecR C r pv kv dv) (hs : Sml r) {As : List zAy} (hC : C ∈ As) (w0 : World) (H : Hp w0 As)
include hR hs hC H
set_option maxHeartbeats 1000000 in
theorem ucheck_ret : Ret Tryz.prog 15 #[.agg (r.cells pv kv dv).toArray] w0 fun u w' => u = .int .i64 (ckE r) ∧ Trs w0 w' As As := by
  have S := St.begin H
  have h1 := hs.name
  have h4 := hs.keep
  have h5 := hs.data
  obtain ⟨ad1, c1, rfl⟩ := hR.pr.slice
  obtain ⟨ad2, c2, rfl⟩ := hR.kr.slice
  obtain ⟨ad3, c3, rfl⟩ := hR.dr.slice
  refine zCx 115 Tryz.func15 rfl rfl (by decide) ?_; intro a E
  refine wp_seq_k ?_; intro K hK
  refine zAb ?_
  refine zAn rfl (zCt E S rfl rfl (by decide) rfl rfl ?_); clear E S a; intro a w b1 E S
  refine zp E (zAd E rfl rfl) ?_; clear E a; intro a E
  refine wpList_nil ?_
  refine zAf hK ?_; clear hK; clear K
  refine wp_seq_k ?_; intro K hK
  refine zAb ?_
  refine zp E (zAd E rfl rfl) ?_; clear E a; intro a E
  refine wpList_nil ?_
  refine zAf hK ?_; clear hK; clear K
  refine wp_seq_k ?_; intro K hK
  refine zDw (fun (a : Act) (w' : World) => ∃ z, z = decide (1 ≤ r.object ∧ r.object ≤ 1048576) ∧ St w0 As w' ([(b1, cel (r.cells (.slice ad1 r.props.length c1) (.slice ad2 r.keep.length c2) (.slice ad3 r.data.length c3)) 26)] :: As) ∧ Fr a 115 [(1, ptr b1), (2, .int .i64 0), (3, .bool false), (4, .bool z)]) ?_ ?_
  · skip
    refine zAb ?_
    refine zp E (by first | exact zAg (q := 8) E rfl rfl rfl | exact zAh (q := 8) E rfl rfl rfl) ?_; clear E a; intro a E
    refine zp E (by first | exact zAo E rfl rfl rfl (S.get (by repeat (first | exact pk1 | apply zAc))) rfl | exact zAj E rfl rfl rfl (by assumption)) ?_; clear E a; intro a E
    refine zp E (zEd E rfl rfl rfl) ?_; clear E a; intro a E
    refine zp E (zAe E rfl rfl) ?_; clear E a; intro a E
    refine zAs E (t := 8) rfl (fun hb8 => ?_) (fun hb8 => ?_)
    · have hb8n := hb8; replace hb8n := Nrm.nrm hb8n
      refine zy E hb8 (by first | exact zAg (q := 8) E rfl rfl rfl | exact zAh (q := 8) E rfl rfl rfl) ?_; clear E a; intro a E
      refine zy E hb8 (by first | exact zAo E rfl rfl rfl (S.get (by repeat (first | exact pk1 | apply zAc))) rfl | exact zAj E rfl rfl rfl (by assumption)) ?_; clear E a; intro a E
      refine zy E hb8 (zEi E rfl rfl rfl) ?_; clear E a; intro a E
      refine zp E (zAl E rfl rfl hb8 rfl) ?_; clear E a; intro a E
      refine zp E (zAd E rfl rfl) ?_; clear E a; intro a E
      refine wpList_nil ?_
      refine zAu ?_
      exact ⟨_, by rw [Bool.eq_iff_iff]; simp only [decide_eq_true_eq, Bool.false_eq_true, false_iff]; omega, S, E.keep (zAa rfl (zAa rfl (zAa rfl (zAa rfl zAm))))⟩
    · have hb8n := hb8; replace hb8n := Nrm.nrm hb8n
      iterate 3 (refine zn E hb8 ?_; clear E a; intro a E)
      refine zp E (zAi E rfl rfl hb8 rfl) ?_; clear E a; intro a E
      refine zp E (zAd E rfl rfl) ?_; clear E a; intro a E
      refine wpList_nil ?_
      refine zAu ?_
      exact ⟨_, by rw [Bool.eq_iff_iff]; simp only [decide_eq_true_eq, Bool.false_eq_true, false_iff]; omega, S, E.keep (zAa rfl (zAa rfl (zAa rfl (zAa rfl zAm))))⟩
  · clear E S a; intro a w J; obtain ⟨z0, hz0, S, E⟩ := J
    refine zAf hK ?_; clear hK; clear K
    iterate 2 (refine wp_seq_k ?_; intro K hK)
    refine zAb ?_
    refine zp E (by first | exact zAg (q := 0) E rfl rfl rfl | exact zAh (q := 0) E rfl rfl rfl) ?_; clear E a; intro a E
    refine zp E (by first | exact zAo E rfl rfl rfl (S.get (by repeat (first | exact pk1 | apply zAc))) rfl | exact zAj E rfl rfl rfl (by assumption)) ?_; clear E a; intro a E
    refine wpList_nil ?_
    refine zAf hK ?_; clear hK; clear K
    refine zDw (fun (a : Act) (w' : World) => ∃ z, z = ckB r ∧ St w0 As w' ([(b1, cel (r.cells (.slice ad1 r.props.length c1) (.slice ad2 r.keep.length c2) (.slice ad3 r.data.length c3)) 26)] :: As) ∧ Fr a 115 [(1, ptr b1), (2, .int .i64 0), (3, .bool z)]) ?_ ?_
    · refine wp_block ?_
      refine wp_seq_k ?_; intro K hK
      refine zAb ?_
      refine zp E (by first | exact zCe E rfl rfl rfl | exact zAt E rfl rfl rfl rfl | exact zBd E rfl rfl rfl rfl | exact zAw E rfl rfl rfl) ?_; clear E a; intro a E
      refine zp E (zAd E rfl rfl) ?_; clear E a; intro a E
      refine wpList_nil ?_
      refine zAf hK ?_; clear hK; clear K
      refine zBf E rfl (fun hb => ?_) (fun hb => ?_)
      · replace hb := Nrm.nrm hb
        have hk1 := hb
        refine zAb ?_
        refine zp E (zBp (vs := [_, _, _, _, _, _, _, _, _, _, _, _, _]) E rfl rfl rfl (S.get (by repeat (first | exact pk1 | apply zAc))) rfl rfl) ?_; clear E a; intro a E
        refine zAp E rfl rfl (by decide) rfl Tryz.func33 rfl (by kernel_rfl) rfl (zGw hR hs _ S.hp 3 (by decide) (by decide)) ?_
        rintro v18 w ⟨rfl, hT⟩; clear E a; intro a E
        have S := S.all hT
        refine zp E (zAe E rfl rfl) ?_; clear E a; intro a E
        refine zAs E (t := 19) rfl (fun hb19 => ?_) (fun hb19 => ?_)
        · have hb19n := hb19; replace hb19n := Nrm.nrm hb19n
          refine zy E hb19 (by first | exact zAg (q := 1) E rfl rfl rfl | exact zAh (q := 1) E rfl rfl rfl) ?_; clear E a; intro a E
          refine zy E hb19 (by first | exact zAo E rfl rfl rfl (S.get (by repeat (first | exact pk1 | apply zAc))) rfl | exact zAj E rfl rfl rfl (by assumption)) ?_; clear E a; intro a E
          refine zCb E rfl rfl rfl rfl hb19 ?_; refine zCv E rfl (by decide) rfl Tryz.func34 rfl (by kernel_rfl) rfl (zLi r.name (by omega) _ _ S.hp) ?_
          rintro v22 w ⟨rfl, hT⟩; clear E a; intro a E
          have S := S.all hT
          refine zp E (zAl E rfl rfl hb19 rfl) ?_; clear E a; intro a E
          refine zp E (zAe E rfl rfl) ?_; clear E a; intro a E
          refine zAs E (t := 24) rfl (fun hb24 => ?_) (fun hb24 => ?_)
          · have hb24n := hb24; replace hb24n := Nrm.nrm hb24n
            refine zy E hb24 (by first | exact zAg (q := 10) E rfl rfl rfl | exact zAh (q := 10) E rfl rfl rfl) ?_; clear E a; intro a E
            refine zy E hb24 (by first | exact zAo E rfl rfl rfl (S.get (by repeat (first | exact pk1 | apply zAc))) rfl | exact zAj E rfl rfl rfl (by assumption)) ?_; clear E a; intro a E
            refine zy E hb24 (zEd E rfl rfl rfl) ?_; clear E a; intro a E
            refine zp E (zAl E rfl rfl hb24 rfl) ?_; clear E a; intro a E
            refine zp E (zAe E rfl rfl) ?_; clear E a; intro a E
            refine zAs E (t := 29) rfl (fun hb29 => ?_) (fun hb29 => ?_)
            · have hb29n := hb29; replace hb29n := Nrm.nrm hb29n
              refine zy E hb29 (by first | exact zAg (q := 10) E rfl rfl rfl | exact zAh (q := 10) E rfl rfl rfl) ?_; clear E a; intro a E
              refine zy E hb29 (by first | exact zAo E rfl rfl rfl (S.get (by repeat (first | exact pk1 | apply zAc))) rfl | exact zAj E rfl rfl rfl (by assumption)) ?_; clear E a; intro a E
              refine zy E hb29 (zEi E rfl rfl rfl) ?_; clear E a; intro a E
              refine zp E (zAl E rfl rfl hb29 rfl) ?_; clear E a; intro a E
              refine zp E (zAd E rfl rfl) ?_; clear E a; intro a E
              refine wpList_nil ?_
              refine zBi ?_
              refine zAu ?_
              refine ⟨_, ?_, S, E.keep (zAa rfl (zAa rfl (zAa rfl zAm)))⟩
              first
                | (rw [ck1 hk1]; clear hT E S; clear hR hs hC H; simp_all <;> omega)
                | (rw [ck2 hk2]; clear hT E S; clear hR hs hC H; simp_all)
                | (rw [ck3 hk3]; clear hT E S; clear hR hs hC H; simp_all)
                | (rw [ck4 hk4]; simp only [may4]; clear hT E S; clear hR hs hC H; simp_all <;> omega)
                | (rw [ck5 hk5]; simp only [may5]; clear hT E S; clear hR hs hC H; simp_all <;> omega)
                | (rw [ck6 hk6]; simp only [may6]; clear hT E S; clear hR hs hC H; simp_all <;> omega)
                | (rw [ck0 (by unfold inK; omega)])
            · have hb29n := hb29; replace hb29n := Nrm.nrm hb29n
              iterate 3 (refine zn E hb29 ?_; clear E a; intro a E)
              refine zp E (zAi E rfl rfl hb29 rfl) ?_; clear E a; intro a E
              refine zp E (zAd E rfl rfl) ?_; clear E a; intro a E
              refine wpList_nil ?_
              refine zBi ?_
              refine zAu ?_
              refine ⟨_, ?_, S, E.keep (zAa rfl (zAa rfl (zAa rfl zAm)))⟩
              first
                | (rw [ck1 hk1]; clear hT E S; clear hR hs hC H; simp_all <;> omega)
                | (rw [ck2 hk2]; clear hT E S; clear hR hs hC H; simp_all)
                | (rw [ck3 hk3]; clear hT E S; clear hR hs hC H; simp_all)
                | (rw [ck4 hk4]; simp only [may4]; clear hT E S; clear hR hs hC H; simp_all <;> omega)
                | (rw [ck5 hk5]; simp only [may5]; clear hT E S; clear hR hs hC H; simp_all <;> omega)
                | (rw [ck6 hk6]; simp only [may6]; clear hT E S; clear hR hs hC H; simp_all <;> omega)
                | (rw [ck0 (by unfold inK; omega)])
          · have hb24n := hb24; replace hb24n := Nrm.nrm hb24n
            iterate 3 (refine zn E hb24 ?_; clear E a; intro a E)
            refine zp E (zAi E rfl rfl hb24 rfl) ?_; clear E a; intro a E
            refine zp E (zAe E rfl rfl) ?_; clear E a; intro a E
            iterate 3 (refine zn E rfl ?_; clear E a; intro a E)
            refine zp E (zAi E rfl rfl rfl rfl) ?_; clear E a; intro a E
            refine zp E (zAd E rfl rfl) ?_; clear E a; intro a E
            refine wpList_nil ?_
            refine zBi ?_
            refine zAu ?_
            refine ⟨_, ?_, S, E.keep (zAa rfl (zAa rfl (zAa rfl zAm)))⟩
            first
              | (rw [ck1 hk1]; clear hT E S; clear hR hs hC H; simp_all <;> omega)
              | (rw [ck2 hk2]; clear hT E S; clear hR hs hC H; simp_all)
              | (rw [ck3 hk3]; clear hT E S; clear hR hs hC H; simp_all)
              | (rw [ck4 hk4]; simp only [may4]; clear hT E S; clear hR hs hC H; simp_all <;> omega)
              | (rw [ck5 hk5]; simp only [may5]; clear hT E S; clear hR hs hC H; simp_all <;> omega)
              | (rw [ck6 hk6]; simp only [may6]; clear hT E S; clear hR hs hC H; simp_all <;> omega)
              | (rw [ck0 (by unfold inK; omega)])
        · have hb19n := hb19; replace hb19n := Nrm.nrm hb19n
          iterate 3 (refine zn E hb19 ?_; clear E a; intro a E)
          refine zp E (zAi E rfl rfl hb19 rfl) ?_; clear E a; intro a E
          refine zp E (zAe E rfl rfl) ?_; clear E a; intro a E
          iterate 3 (refine zn E rfl ?_; clear E a; intro a E)
          refine zp E (zAi E rfl rfl rfl rfl) ?_; clear E a; intro a E
          refine zp E (zAe E rfl rfl) ?_; clear E a; intro a E
          iterate 3 (refine zn E rfl ?_; clear E a; intro a E)
          refine zp E (zAi E rfl rfl rfl rfl) ?_; clear E a; intro a E
          refine zp E (zAd E rfl rfl) ?_; clear E a; intro a E
          refine wpList_nil ?_
          refine zBi ?_
          refine zAu ?_
          refine ⟨_, ?_, S, E.keep (zAa rfl (zAa rfl (zAa rfl zAm)))⟩
          first
            | (rw [ck1 hk1]; clear hT E S; clear hR hs hC H; simp_all <;> omega)
            | (rw [ck2 hk2]; clear hT E S; clear hR hs hC H; simp_all)
            | (rw [ck3 hk3]; clear hT E S; clear hR hs hC H; simp_all)
            | (rw [ck4 hk4]; simp only [may4]; clear hT E S; clear hR hs hC H; simp_all <;> omega)
            | (rw [ck5 hk5]; simp only [may5]; clear hT E S; clear hR hs hC H; simp_all <;> omega)
            | (rw [ck6 hk6]; simp only [may6]; clear hT E S; clear hR hs hC H; simp_all <;> omega)
            | (rw [ck0 (by unfold inK; omega)])
      · replace hb := Nrm.nrm hb
        have hk1 := hb
        refine wp_seq_k ?_; intro K hK
        refine zAb ?_
        refine zp E (by first | exact zCe E rfl rfl rfl | exact zAt E rfl rfl rfl rfl | exact zBd E rfl rfl rfl rfl | exact zAw E rfl rfl rfl) ?_; clear E a; intro a E
        refine zp E (zAd E rfl rfl) ?_; clear E a; intro a E
        refine wpList_nil ?_
        refine zAf hK ?_; clear hK; clear K
        refine zBf E rfl (fun hb => ?_) (fun hb => ?_)
        · replace hb := Nrm.nrm hb
          have hk2 := hb
          refine zAb ?_
          refine zp E (zBp (vs := [_, _, _, _, _, _, _, _, _, _, _, _, _]) E rfl rfl rfl (S.get (by repeat (first | exact pk1 | apply zAc))) rfl rfl) ?_; clear E a; intro a E
          refine zAp E rfl rfl (by decide) rfl Tryz.func33 rfl (by kernel_rfl) rfl (zGw hR hs _ S.hp 253 (by decide) (by decide)) ?_
          rintro v37 w ⟨rfl, hT⟩; clear E a; intro a E
          have S := S.all hT
          refine zp E (zAe E rfl rfl) ?_; clear E a; intro a E
          refine zAs E (t := 38) rfl (fun hb38 => ?_) (fun hb38 => ?_)
          · have hb38n := hb38; replace hb38n := Nrm.nrm hb38n
            refine zy E hb38 (zBp (vs := [_, _, _, _, _, _, _, _, _, _, _, _, _]) E rfl rfl rfl (S.get (by repeat (first | exact pk1 | apply zAc))) rfl rfl) ?_; clear E a; intro a E
            refine zCb E rfl rfl rfl rfl hb38 ?_; refine zCv E rfl (by decide) rfl Tryz.func35 rfl (by kernel_rfl) rfl (ubegin_ret hR hs (List.mem_cons_of_mem _ hC) _ S.hp) ?_
            rintro v40 w ⟨rfl, hT⟩; clear E a; intro a E
            have S := S.all hT
            refine zp E (zAl E rfl rfl hb38 rfl) ?_; clear E a; intro a E
            refine zp E (zAd E rfl rfl) ?_; clear E a; intro a E
            refine wpList_nil ?_
            refine zBi ?_
            refine zAu ?_
            refine ⟨_, ?_, S, E.keep (zAa rfl (zAa rfl (zAa rfl zAm)))⟩
            first
              | (rw [ck1 hk1]; clear hT E S; clear hR hs hC H; simp_all <;> omega)
              | (rw [ck2 hk2]; clear hT E S; clear hR hs hC H; simp_all)
              | (rw [ck3 hk3]; clear hT E S; clear hR hs hC H; simp_all)
              | (rw [ck4 hk4]; simp only [may4]; clear hT E S; clear hR hs hC H; simp_all <;> omega)
              | (rw [ck5 hk5]; simp only [may5]; clear hT E S; clear hR hs hC H; simp_all <;> omega)
              | (rw [ck6 hk6]; simp only [may6]; clear hT E S; clear hR hs hC H; simp_all <;> omega)
              | (rw [ck0 (by unfold inK; omega)])
          · have hb38n := hb38; replace hb38n := Nrm.nrm hb38n
            iterate 2 (refine zn E hb38 ?_; clear E a; intro a E)
            refine zp E (zAi E rfl rfl hb38 rfl) ?_; clear E a; intro a E
            refine zp E (zAd E rfl rfl) ?_; clear E a; intro a E
            refine wpList_nil ?_
            refine zBi ?_
            refine zAu ?_
            refine ⟨_, ?_, S, E.keep (zAa rfl (zAa rfl (zAa rfl zAm)))⟩
            first
              | (rw [ck1 hk1]; clear hT E S; clear hR hs hC H; simp_all <;> omega)
              | (rw [ck2 hk2]; clear hT E S; clear hR hs hC H; simp_all)
              | (rw [ck3 hk3]; clear hT E S; clear hR hs hC H; simp_all)
              | (rw [ck4 hk4]; simp only [may4]; clear hT E S; clear hR hs hC H; simp_all <;> omega)
              | (rw [ck5 hk5]; simp only [may5]; clear hT E S; clear hR hs hC H; simp_all <;> omega)
              | (rw [ck6 hk6]; simp only [may6]; clear hT E S; clear hR hs hC H; simp_all <;> omega)
              | (rw [ck0 (by unfold inK; omega)])
        · replace hb := Nrm.nrm hb
          have hk2 := hb
          refine wp_seq_k ?_; intro K hK
          refine zAb ?_
          refine zp E (by first | exact zCe E rfl rfl rfl | exact zAt E rfl rfl rfl rfl | exact zBd E rfl rfl rfl rfl | exact zAw E rfl rfl rfl) ?_; clear E a; intro a E
          refine zp E (zAd E rfl rfl) ?_; clear E a; intro a E
          refine wpList_nil ?_
          refine zAf hK ?_; clear hK; clear K
          refine zBf E rfl (fun hb => ?_) (fun hb => ?_)
          · replace hb := Nrm.nrm hb
            have hk3 := hb
            refine zAb ?_
            refine zp E (zBp (vs := [_, _, _, _, _, _, _, _, _, _, _, _, _]) E rfl rfl rfl (S.get (by repeat (first | exact pk1 | apply zAc))) rfl rfl) ?_; clear E a; intro a E
            refine zAp E rfl rfl (by decide) rfl Tryz.func33 rfl (by kernel_rfl) rfl (zGw hR hs _ S.hp 1024 (by decide) (by decide)) ?_
            rintro v45 w ⟨rfl, hT⟩; clear E a; intro a E
            have S := S.all hT
            refine zp E (zAe E rfl rfl) ?_; clear E a; intro a E
            refine zAs E (t := 46) rfl (fun hb46 => ?_) (fun hb46 => ?_)
            · have hb46n := hb46; replace hb46n := Nrm.nrm hb46n
              refine zy E hb46 (by first | exact zAg (q := 11) E rfl rfl rfl | exact zAh (q := 11) E rfl rfl rfl) ?_; clear E a; intro a E
              refine zy E hb46 (by first | exact zAo E rfl rfl rfl (S.get (by repeat (first | exact pk1 | apply zAc))) rfl | exact zAj E rfl rfl rfl (by assumption)) ?_; clear E a; intro a E
              refine zCb E rfl rfl rfl rfl hb46 ?_; refine zCv E rfl (by decide) rfl Tryz.func36 rfl (by kernel_rfl) rfl (uris_ret C _ r.keep hR.kr (by omega) 1 1048576 _ (List.mem_cons_of_mem _ hC) _ S.hp) ?_
              rintro v49 w ⟨rfl, hT⟩; clear E a; intro a E
              have S := S.all hT
              refine zp E (zAl E rfl rfl hb46 rfl) ?_; clear E a; intro a E
              refine zp E (zAd E rfl rfl) ?_; clear E a; intro a E
              refine wpList_nil ?_
              refine zBi ?_
              refine zAu ?_
              refine ⟨_, ?_, S, E.keep (zAa rfl (zAa rfl (zAa rfl zAm)))⟩
              first
                | (rw [ck1 hk1]; clear hT E S; clear hR hs hC H; simp_all <;> omega)
                | (rw [ck2 hk2]; clear hT E S; clear hR hs hC H; simp_all)
                | (rw [ck3 hk3]; clear hT E S; clear hR hs hC H; simp_all)
                | (rw [ck4 hk4]; simp only [may4]; clear hT E S; clear hR hs hC H; simp_all <;> omega)
                | (rw [ck5 hk5]; simp only [may5]; clear hT E S; clear hR hs hC H; simp_all <;> omega)
                | (rw [ck6 hk6]; simp only [may6]; clear hT E S; clear hR hs hC H; simp_all <;> omega)
                | (rw [ck0 (by unfold inK; omega)])
            · have hb46n := hb46; replace hb46n := Nrm.nrm hb46n
              iterate 3 (refine zn E hb46 ?_; clear E a; intro a E)
              refine zp E (zAi E rfl rfl hb46 rfl) ?_; clear E a; intro a E
              refine zp E (zAd E rfl rfl) ?_; clear E a; intro a E
              refine wpList_nil ?_
              refine zBi ?_
              refine zAu ?_
              refine ⟨_, ?_, S, E.keep (zAa rfl (zAa rfl (zAa rfl zAm)))⟩
              first
                | (rw [ck1 hk1]; clear hT E S; clear hR hs hC H; simp_all <;> omega)
                | (rw [ck2 hk2]; clear hT E S; clear hR hs hC H; simp_all)
                | (rw [ck3 hk3]; clear hT E S; clear hR hs hC H; simp_all)
                | (rw [ck4 hk4]; simp only [may4]; clear hT E S; clear hR hs hC H; simp_all <;> omega)
                | (rw [ck5 hk5]; simp only [may5]; clear hT E S; clear hR hs hC H; simp_all <;> omega)
                | (rw [ck6 hk6]; simp only [may6]; clear hT E S; clear hR hs hC H; simp_all <;> omega)
                | (rw [ck0 (by unfold inK; omega)])
          · replace hb := Nrm.nrm hb
            have hk3 := hb
            refine wp_seq_k ?_; intro K hK
            refine zAb ?_
            refine zp E (by first | exact zCe E rfl rfl rfl | exact zAt E rfl rfl rfl rfl | exact zBd E rfl rfl rfl rfl | exact zAw E rfl rfl rfl) ?_; clear E a; intro a E
            refine zp E (zAd E rfl rfl) ?_; clear E a; intro a E
            refine wpList_nil ?_
            refine zAf hK ?_; clear hK; clear K
            refine zBf E rfl (fun hb => ?_) (fun hb => ?_)
            · replace hb := Nrm.nrm hb
              have hk4 := hb
              refine zAb ?_
              refine zp E (zBp (vs := [_, _, _, _, _, _, _, _, _, _, _, _, _]) E rfl rfl rfl (S.get (by repeat (first | exact pk1 | apply zAc))) rfl rfl) ?_; clear E a; intro a E
              refine zAp E rfl rfl (by decide) rfl Tryz.func33 rfl (by kernel_rfl) rfl (zGw hR hs _ S.hp 1280 (by decide) (by decide)) ?_
              rintro v54 w ⟨rfl, hT⟩; clear E a; intro a E
              have S := S.all hT
              refine zp E (zAe E rfl rfl) ?_; clear E a; intro a E
              refine zAs E (t := 55) rfl (fun hb55 => ?_) (fun hb55 => ?_)
              · have hb55n := hb55; replace hb55n := Nrm.nrm hb55n
                refine zy E hb55 (zAe E rfl rfl) ?_; clear E a; intro a E
                refine zp E (zAl E rfl rfl hb55 rfl) ?_; clear E a; intro a E
                refine zp E (zAe E rfl rfl) ?_; clear E a; intro a E
                refine zAs E (t := 58) rfl (fun hb58 => ?_) (fun hb58 => ?_)
                · have hb58n := hb58; replace hb58n := Nrm.nrm hb58n
                  refine zy E hb58 (by first | exact zAg (q := 11) E rfl rfl rfl | exact zAh (q := 11) E rfl rfl rfl) ?_; clear E a; intro a E
                  refine zy E hb58 (by first | exact zAo E rfl rfl rfl (S.get (by repeat (first | exact pk1 | apply zAc))) rfl | exact zAj E rfl rfl rfl (by assumption)) ?_; clear E a; intro a E
                  refine zy E hb58 (by first | exact zBx E rfl rfl rfl | exact zAx E rfl rfl rfl | exact zAq E rfl rfl rfl) ?_; clear E a; intro a E
                  refine zy E hb58 (zEd E rfl rfl rfl) ?_; clear E a; intro a E
                  refine zp E (zAl E rfl rfl hb58 rfl) ?_; clear E a; intro a E
                  refine zp E (zAe E rfl rfl) ?_; clear E a; intro a E
                  refine zAs E (t := 64) rfl (fun hb64 => ?_) (fun hb64 => ?_)
                  · have hb64n := hb64; replace hb64n := Nrm.nrm hb64n
                    refine zy E hb64 (by first | exact zAg (q := 11) E rfl rfl rfl | exact zAh (q := 11) E rfl rfl rfl) ?_; clear E a; intro a E
                    refine zy E hb64 (by first | exact zAo E rfl rfl rfl (S.get (by repeat (first | exact pk1 | apply zAc))) rfl | exact zAj E rfl rfl rfl (by assumption)) ?_; clear E a; intro a E
                    refine zCb E rfl rfl rfl rfl hb64 ?_; refine zCv E rfl (by decide) rfl Tryz.func36 rfl (by kernel_rfl) rfl (uris_ret C _ r.keep hR.kr (by omega) (-1) 255 _ (List.mem_cons_of_mem _ hC) _ S.hp) ?_
                    rintro v67 w ⟨rfl, hT⟩; clear E a; intro a E
                    have S := S.all hT
                    refine zp E (zAl E rfl rfl hb64 rfl) ?_; clear E a; intro a E
                    refine zp E (zAd E rfl rfl) ?_; clear E a; intro a E
                    refine wpList_nil ?_
                    refine zBi ?_
                    refine zAu ?_
                    refine ⟨_, ?_, S, E.keep (zAa rfl (zAa rfl (zAa rfl zAm)))⟩
                    first
                      | (rw [ck1 hk1]; clear hT E S; clear hR hs hC H; simp_all <;> omega)
                      | (rw [ck2 hk2]; clear hT E S; clear hR hs hC H; simp_all)
                      | (rw [ck3 hk3]; clear hT E S; clear hR hs hC H; simp_all)
                      | (rw [ck4 hk4]; simp only [may4]; clear hT E S; clear hR hs hC H; simp_all <;> omega)
                      | (rw [ck5 hk5]; simp only [may5]; clear hT E S; clear hR hs hC H; simp_all <;> omega)
                      | (rw [ck6 hk6]; simp only [may6]; clear hT E S; clear hR hs hC H; simp_all <;> omega)
                      | (rw [ck0 (by unfold inK; omega)])
                  · have hb64n := hb64; replace hb64n := Nrm.nrm hb64n
                    iterate 3 (refine zn E hb64 ?_; clear E a; intro a E)
                    refine zp E (zAi E rfl rfl hb64 rfl) ?_; clear E a; intro a E
                    refine zp E (zAd E rfl rfl) ?_; clear E a; intro a E
                    refine wpList_nil ?_
                    refine zBi ?_
                    refine zAu ?_
                    refine ⟨_, ?_, S, E.keep (zAa rfl (zAa rfl (zAa rfl zAm)))⟩
                    first
                      | (rw [ck1 hk1]; clear hT E S; clear hR hs hC H; simp_all <;> omega)
                      | (rw [ck2 hk2]; clear hT E S; clear hR hs hC H; simp_all)
                      | (rw [ck3 hk3]; clear hT E S; clear hR hs hC H; simp_all)
                      | (rw [ck4 hk4]; simp only [may4]; clear hT E S; clear hR hs hC H; simp_all <;> omega)
                      | (rw [ck5 hk5]; simp only [may5]; clear hT E S; clear hR hs hC H; simp_all <;> omega)
                      | (rw [ck6 hk6]; simp only [may6]; clear hT E S; clear hR hs hC H; simp_all <;> omega)
                      | (rw [ck0 (by unfold inK; omega)])
                · have hb58n := hb58; replace hb58n := Nrm.nrm hb58n
                  iterate 4 (refine zn E hb58 ?_; clear E a; intro a E)
                  refine zp E (zAi E rfl rfl hb58 rfl) ?_; clear E a; intro a E
                  refine zp E (zAe E rfl rfl) ?_; clear E a; intro a E
                  iterate 3 (refine zn E rfl ?_; clear E a; intro a E)
                  refine zp E (zAi E rfl rfl rfl rfl) ?_; clear E a; intro a E
                  refine zp E (zAd E rfl rfl) ?_; clear E a; intro a E
                  refine wpList_nil ?_
                  refine zBi ?_
                  refine zAu ?_
                  refine ⟨_, ?_, S, E.keep (zAa rfl (zAa rfl (zAa rfl zAm)))⟩
                  first
                    | (rw [ck1 hk1]; clear hT E S; clear hR hs hC H; simp_all <;> omega)
                    | (rw [ck2 hk2]; clear hT E S; clear hR hs hC H; simp_all)
                    | (rw [ck3 hk3]; clear hT E S; clear hR hs hC H; simp_all)
                    | (rw [ck4 hk4]; simp only [may4]; clear hT E S; clear hR hs hC H; simp_all <;> omega)
                    | (rw [ck5 hk5]; simp only [may5]; clear hT E S; clear hR hs hC H; simp_all <;> omega)
                    | (rw [ck6 hk6]; simp only [may6]; clear hT E S; clear hR hs hC H; simp_all <;> omega)
                    | (rw [ck0 (by unfold inK; omega)])
              · have hb55n := hb55; replace hb55n := Nrm.nrm hb55n
                refine zn E hb55 ?_; clear E a; intro a E
                refine zp E (zAi E rfl rfl hb55 rfl) ?_; clear E a; intro a E
                refine zp E (zAe E rfl rfl) ?_; clear E a; intro a E
                iterate 4 (refine zn E rfl ?_; clear E a; intro a E)
                refine zp E (zAi E rfl rfl rfl rfl) ?_; clear E a; intro a E
                refine zp E (zAe E rfl rfl) ?_; clear E a; intro a E
                iterate 3 (refine zn E rfl ?_; clear E a; intro a E)
                refine zp E (zAi E rfl rfl rfl rfl) ?_; clear E a; intro a E
                refine zp E (zAd E rfl rfl) ?_; clear E a; intro a E
                refine wpList_nil ?_
                refine zBi ?_
                refine zAu ?_
                refine ⟨_, ?_, S, E.keep (zAa rfl (zAa rfl (zAa rfl zAm)))⟩
                first
                  | (rw [ck1 hk1]; clear hT E S; clear hR hs hC H; simp_all <;> omega)
                  | (rw [ck2 hk2]; clear hT E S; clear hR hs hC H; simp_all)
                  | (rw [ck3 hk3]; clear hT E S; clear hR hs hC H; simp_all)
                  | (rw [ck4 hk4]; simp only [may4]; clear hT E S; clear hR hs hC H; simp_all <;> omega)
                  | (rw [ck5 hk5]; simp only [may5]; clear hT E S; clear hR hs hC H; simp_all <;> omega)
                  | (rw [ck6 hk6]; simp only [may6]; clear hT E S; clear hR hs hC H; simp_all <;> omega)
                  | (rw [ck0 (by unfold inK; omega)])
            · replace hb := Nrm.nrm hb
              have hk4 := hb
              refine wp_seq_k ?_; intro K hK
              refine zAb ?_
              refine zp E (by first | exact zCe E rfl rfl rfl | exact zAt E rfl rfl rfl rfl | exact zBd E rfl rfl rfl rfl | exact zAw E rfl rfl rfl) ?_; clear E a; intro a E
              refine zp E (zAd E rfl rfl) ?_; clear E a; intro a E
              refine wpList_nil ?_
              refine zAf hK ?_; clear hK; clear K
              refine zBf E rfl (fun hb => ?_) (fun hb => ?_)
              · replace hb := Nrm.nrm hb
                have hk5 := hb
                refine zAb ?_
                refine zp E (zBp (vs := [_, _, _, _, _, _, _, _, _, _, _, _, _]) E rfl rfl rfl (S.get (by repeat (first | exact pk1 | apply zAc))) rfl rfl) ?_; clear E a; intro a E
                refine zAp E rfl rfl (by decide) rfl Tryz.func33 rfl (by kernel_rfl) rfl (zGw hR hs _ S.hp 2816 (by decide) (by decide)) ?_
                rintro v72 w ⟨rfl, hT⟩; clear E a; intro a E
                have S := S.all hT
                refine zp E (zAe E rfl rfl) ?_; clear E a; intro a E
                refine zAs E (t := 73) rfl (fun hb73 => ?_) (fun hb73 => ?_)
                · have hb73n := hb73; replace hb73n := Nrm.nrm hb73n
                  refine zy E hb73 (zAe E rfl rfl) ?_; clear E a; intro a E
                  refine zp E (zAl E rfl rfl hb73 rfl) ?_; clear E a; intro a E
                  refine zp E (zAe E rfl rfl) ?_; clear E a; intro a E
                  refine zAs E (t := 76) rfl (fun hb76 => ?_) (fun hb76 => ?_)
                  · have hb76n := hb76; replace hb76n := Nrm.nrm hb76n
                    refine zy E hb76 (by first | exact zAg (q := 9) E rfl rfl rfl | exact zAh (q := 9) E rfl rfl rfl) ?_; clear E a; intro a E
                    refine zy E hb76 (by first | exact zAo E rfl rfl rfl (S.get (by repeat (first | exact pk1 | apply zAc))) rfl | exact zAj E rfl rfl rfl (by assumption)) ?_; clear E a; intro a E
                    refine zy E hb76 (zEd E rfl rfl rfl) ?_; clear E a; intro a E
                    refine zp E (zAl E rfl rfl hb76 rfl) ?_; clear E a; intro a E
                    refine zp E (zAe E rfl rfl) ?_; clear E a; intro a E
                    refine zAs E (t := 81) rfl (fun hb81 => ?_) (fun hb81 => ?_)
                    · have hb81n := hb81; replace hb81n := Nrm.nrm hb81n
                      refine zy E hb81 (by first | exact zAg (q := 9) E rfl rfl rfl | exact zAh (q := 9) E rfl rfl rfl) ?_; clear E a; intro a E
                      refine zy E hb81 (by first | exact zAo E rfl rfl rfl (S.get (by repeat (first | exact pk1 | apply zAc))) rfl | exact zAj E rfl rfl rfl (by assumption)) ?_; clear E a; intro a E
                      refine zy E hb81 (zEi E rfl rfl rfl) ?_; clear E a; intro a E
                      refine zp E (zAl E rfl rfl hb81 rfl) ?_; clear E a; intro a E
                      refine zp E (zAe E rfl rfl) ?_; clear E a; intro a E
                      refine zAs E (t := 86) rfl (fun hb86 => ?_) (fun hb86 => ?_)
                      · have hb86n := hb86; replace hb86n := Nrm.nrm hb86n
                        refine zy E hb86 (by first | exact zAg (q := 12) E rfl rfl rfl | exact zAh (q := 12) E rfl rfl rfl) ?_; clear E a; intro a E
                        refine zy E hb86 (by first | exact zAo E rfl rfl rfl (S.get (by repeat (first | exact pk1 | apply zAc))) rfl | exact zAj E rfl rfl rfl (by assumption)) ?_; clear E a; intro a E
                        refine zy E hb86 (by first | exact zBx E rfl rfl rfl | exact zAx E rfl rfl rfl | exact zAq E rfl rfl rfl) ?_; clear E a; intro a E
                        refine zy E hb86 (zEd E rfl rfl rfl) ?_; clear E a; intro a E
                        refine zp E (zAl E rfl rfl hb86 rfl) ?_; clear E a; intro a E
                        refine zp E (zAe E rfl rfl) ?_; clear E a; intro a E
                        refine zAs E (t := 92) rfl (fun hb92 => ?_) (fun hb92 => ?_)
                        · have hb92n := hb92; replace hb92n := Nrm.nrm hb92n
                          refine zy E hb92 (by first | exact zAg (q := 12) E rfl rfl rfl | exact zAh (q := 12) E rfl rfl rfl) ?_; clear E a; intro a E
                          refine zy E hb92 (by first | exact zAo E rfl rfl rfl (S.get (by repeat (first | exact pk1 | apply zAc))) rfl | exact zAj E rfl rfl rfl (by assumption)) ?_; clear E a; intro a E
                          refine zy E hb92 (by first | exact zBx E rfl rfl rfl | exact zAx E rfl rfl rfl | exact zAq E rfl rfl rfl) ?_; clear E a; intro a E
                          refine zy E hb92 (zEi E rfl rfl rfl) ?_; clear E a; intro a E
                          refine zp E (zAl E rfl rfl hb92 rfl) ?_; clear E a; intro a E
                          refine zp E (zAd E rfl rfl) ?_; clear E a; intro a E
                          refine wpList_nil ?_
                          refine zBi ?_
                          refine zAu ?_
                          refine ⟨_, ?_, S, E.keep (zAa rfl (zAa rfl (zAa rfl zAm)))⟩
                          first
                            | (rw [ck1 hk1]; clear hT E S; clear hR hs hC H; simp_all <;> omega)
                            | (rw [ck2 hk2]; clear hT E S; clear hR hs hC H; simp_all)
                            | (rw [ck3 hk3]; clear hT E S; clear hR hs hC H; simp_all)
                            | (rw [ck4 hk4]; simp only [may4]; clear hT E S; clear hR hs hC H; simp_all <;> omega)
                            | (rw [ck5 hk5]; simp only [may5]; clear hT E S; clear hR hs hC H; simp_all <;> omega)
                            | (rw [ck6 hk6]; simp only [may6]; clear hT E S; clear hR hs hC H; simp_all <;> omega)
                            | (rw [ck0 (by unfold inK; omega)])
                        · have hb92n := hb92; replace hb92n := Nrm.nrm hb92n
                          iterate 4 (refine zn E hb92 ?_; clear E a; intro a E)
                          refine zp E (zAi E rfl rfl hb92 rfl) ?_; clear E a; intro a E
                          refine zp E (zAd E rfl rfl) ?_; clear E a; intro a E
                          refine wpList_nil ?_
                          refine zBi ?_
                          refine zAu ?_
                          refine ⟨_, ?_, S, E.keep (zAa rfl (zAa rfl (zAa rfl zAm)))⟩
                          first
                            | (rw [ck1 hk1]; clear hT E S; clear hR hs hC H; simp_all <;> omega)
                            | (rw [ck2 hk2]; clear hT E S; clear hR hs hC H; simp_all)
                            | (rw [ck3 hk3]; clear hT E S; clear hR hs hC H; simp_all)
                            | (rw [ck4 hk4]; simp only [may4]; clear hT E S; clear hR hs hC H; simp_all <;> omega)
                            | (rw [ck5 hk5]; simp only [may5]; clear hT E S; clear hR hs hC H; simp_all <;> omega)
                            | (rw [ck6 hk6]; simp only [may6]; clear hT E S; clear hR hs hC H; simp_all <;> omega)
                            | (rw [ck0 (by unfold inK; omega)])
                      · have hb86n := hb86; replace hb86n := Nrm.nrm hb86n
                        iterate 4 (refine zn E hb86 ?_; clear E a; intro a E)
                        refine zp E (zAi E rfl rfl hb86 rfl) ?_; clear E a; intro a E
                        refine zp E (zAe E rfl rfl) ?_; clear E a; intro a E
                        iterate 4 (refine zn E rfl ?_; clear E a; intro a E)
                        refine zp E (zAi E rfl rfl rfl rfl) ?_; clear E a; intro a E
                        refine zp E (zAd E rfl rfl) ?_; clear E a; intro a E
                        refine wpList_nil ?_
                        refine zBi ?_
                        refine zAu ?_
                        refine ⟨_, ?_, S, E.keep (zAa rfl (zAa rfl (zAa rfl zAm)))⟩
                        first
                          | (rw [ck1 hk1]; clear hT E S; clear hR hs hC H; simp_all <;> omega)
                          | (rw [ck2 hk2]; clear hT E S; clear hR hs hC H; simp_all)
                          | (rw [ck3 hk3]; clear hT E S; clear hR hs hC H; simp_all)
                          | (rw [ck4 hk4]; simp only [may4]; clear hT E S; clear hR hs hC H; simp_all <;> omega)
                          | (rw [ck5 hk5]; simp only [may5]; clear hT E S; clear hR hs hC H; simp_all <;> omega)
                          | (rw [ck6 hk6]; simp only [may6]; clear hT E S; clear hR hs hC H; simp_all <;> omega)
                          | (rw [ck0 (by unfold inK; omega)])
                    · have hb81n := hb81; replace hb81n := Nrm.nrm hb81n
                      iterate 3 (refine zn E hb81 ?_; clear E a; intro a E)
                      refine zp E (zAi E rfl rfl hb81 rfl) ?_; clear E a; intro a E
                      refine zp E (zAe E rfl rfl) ?_; clear E a; intro a E
                      iterate 4 (refine zn E rfl ?_; clear E a; intro a E)
                      refine zp E (zAi E rfl rfl rfl rfl) ?_; clear E a; intro a E
                      refine zp E (zAe E rfl rfl) ?_; clear E a; intro a E
                      iterate 4 (refine zn E rfl ?_; clear E a; intro a E)
                      refine zp E (zAi E rfl rfl rfl rfl) ?_; clear E a; intro a E
                      refine zp E (zAd E rfl rfl) ?_; clear E a; intro a E
                      refine wpList_nil ?_
                      refine zBi ?_
                      refine zAu ?_
                      refine ⟨_, ?_, S, E.keep (zAa rfl (zAa rfl (zAa rfl zAm)))⟩
                      first
                        | (rw [ck1 hk1]; clear hT E S; clear hR hs hC H; simp_all <;> omega)
                        | (rw [ck2 hk2]; clear hT E S; clear hR hs hC H; simp_all)
                        | (rw [ck3 hk3]; clear hT E S; clear hR hs hC H; simp_all)
                        | (rw [ck4 hk4]; simp only [may4]; clear hT E S; clear hR hs hC H; simp_all <;> omega)
                        | (rw [ck5 hk5]; simp only [may5]; clear hT E S; clear hR hs hC H; simp_all <;> omega)
                        | (rw [ck6 hk6]; simp only [may6]; clear hT E S; clear hR hs hC H; simp_all <;> omega)
                        | (rw [ck0 (by unfold inK; omega)])
                  · have hb76n := hb76; replace hb76n := Nrm.nrm hb76n
                    iterate 3 (refine zn E hb76 ?_; clear E a; intro a E)
                    refine zp E (zAi E rfl rfl hb76 rfl) ?_; clear E a; intro a E
                    refine zp E (zAe E rfl rfl) ?_; clear E a; intro a E
                    iterate 3 (refine zn E rfl ?_; clear E a; intro a E)
                    refine zp E (zAi E rfl rfl rfl rfl) ?_; clear E a; intro a E
                    refine zp E (zAe E rfl rfl) ?_; clear E a; intro a E
                    iterate 4 (refine zn E rfl ?_; clear E a; intro a E)
                    refine zp E (zAi E rfl rfl rfl rfl) ?_; clear E a; intro a E
                    refine zp E (zAe E rfl rfl) ?_; clear E a; intro a E
                    iterate 4 (refine zn E rfl ?_; clear E a; intro a E)
                    refine zp E (zAi E rfl rfl rfl rfl) ?_; clear E a; intro a E
                    refine zp E (zAd E rfl rfl) ?_; clear E a; intro a E
                    refine wpList_nil ?_
                    refine zBi ?_
                    refine zAu ?_
                    refine ⟨_, ?_, S, E.keep (zAa rfl (zAa rfl (zAa rfl zAm)))⟩
                    first
                      | (rw [ck1 hk1]; clear hT E S; clear hR hs hC H; simp_all <;> omega)
                      | (rw [ck2 hk2]; clear hT E S; clear hR hs hC H; simp_all)
                      | (rw [ck3 hk3]; clear hT E S; clear hR hs hC H; simp_all)
                      | (rw [ck4 hk4]; simp only [may4]; clear hT E S; clear hR hs hC H; simp_all <;> omega)
                      | (rw [ck5 hk5]; simp only [may5]; clear hT E S; clear hR hs hC H; simp_all <;> omega)
                      | (rw [ck6 hk6]; simp only [may6]; clear hT E S; clear hR hs hC H; simp_all <;> omega)
                      | (rw [ck0 (by unfold inK; omega)])
                · have hb73n := hb73; replace hb73n := Nrm.nrm hb73n
                  refine zn E hb73 ?_; clear E a; intro a E
                  refine zp E (zAi E rfl rfl hb73 rfl) ?_; clear E a; intro a E
                  refine zp E (zAe E rfl rfl) ?_; clear E a; intro a E
                  iterate 3 (refine zn E rfl ?_; clear E a; intro a E)
                  refine zp E (zAi E rfl rfl rfl rfl) ?_; clear E a; intro a E
                  refine zp E (zAe E rfl rfl) ?_; clear E a; intro a E
                  iterate 3 (refine zn E rfl ?_; clear E a; intro a E)
                  refine zp E (zAi E rfl rfl rfl rfl) ?_; clear E a; intro a E
                  refine zp E (zAe E rfl rfl) ?_; clear E a; intro a E
                  iterate 4 (refine zn E rfl ?_; clear E a; intro a E)
                  refine zp E (zAi E rfl rfl rfl rfl) ?_; clear E a; intro a E
                  refine zp E (zAe E rfl rfl) ?_; clear E a; intro a E
                  iterate 4 (refine zn E rfl ?_; clear E a; intro a E)
                  refine zp E (zAi E rfl rfl rfl rfl) ?_; clear E a; intro a E
                  refine zp E (zAd E rfl rfl) ?_; clear E a; intro a E
                  refine wpList_nil ?_
                  refine zBi ?_
                  refine zAu ?_
                  refine ⟨_, ?_, S, E.keep (zAa rfl (zAa rfl (zAa rfl zAm)))⟩
                  first
                    | (rw [ck1 hk1]; clear hT E S; clear hR hs hC H; simp_all <;> omega)
                    | (rw [ck2 hk2]; clear hT E S; clear hR hs hC H; simp_all)
                    | (rw [ck3 hk3]; clear hT E S; clear hR hs hC H; simp_all)
                    | (rw [ck4 hk4]; simp only [may4]; clear hT E S; clear hR hs hC H; simp_all <;> omega)
                    | (rw [ck5 hk5]; simp only [may5]; clear hT E S; clear hR hs hC H; simp_all <;> omega)
                    | (rw [ck6 hk6]; simp only [may6]; clear hT E S; clear hR hs hC H; simp_all <;> omega)
                    | (rw [ck0 (by unfold inK; omega)])
              · replace hb := Nrm.nrm hb
                have hk5 := hb
                iterate 2 (refine wp_seq_k ?_; intro K hK)
                refine zAb ?_
                refine zp E (by first | exact zCe E rfl rfl rfl | exact zAt E rfl rfl rfl rfl | exact zBd E rfl rfl rfl rfl | exact zAw E rfl rfl rfl) ?_; clear E a; intro a E
                refine zp E (zAd E rfl rfl) ?_; clear E a; intro a E
                refine wpList_nil ?_
                refine zAf hK ?_; clear hK; clear K
                refine zDw (fun (a : Act) (w' : World) => ∃ z, (z = true ↔ (r.kind = 6 ∨ r.kind = 7)) ∧ St w0 As w' ([(b1, cel (r.cells (.slice ad1 r.props.length c1) (.slice ad2 r.keep.length c2) (.slice ad3 r.data.length c3)) 26)] :: As) ∧ Fr a 115 [(1, ptr b1), (2, .int .i64 0), (3, .bool false), (14, .int .i64 r.kind), (98, .bool z)]) ?_ ?_
                · skip
                  refine zBf E rfl (fun hb => ?_) (fun hb => ?_)
                  · replace hb := Nrm.nrm hb
                    refine wp_skip ?_
                    refine zAu ?_
                    exact ⟨_, ⟨fun _ => by omega, fun _ => by simp; omega⟩, S, E.keep (zAa rfl (zAa rfl (zAa rfl (zAa rfl (zAa rfl zAm)))))⟩
                  · replace hb := Nrm.nrm hb
                    refine zAb ?_
                    refine zp E (by first | exact zCe E rfl rfl rfl | exact zAt E rfl rfl rfl rfl | exact zBd E rfl rfl rfl rfl | exact zAw E rfl rfl rfl) ?_; clear E a; intro a E
                    refine zp E (zAd E rfl rfl) ?_; clear E a; intro a E
                    refine wpList_nil ?_
                    refine zAu ?_
                    exact ⟨_, ⟨fun q => by simp at q; omega, fun q => by simp; omega⟩, S, E.keep (zAa rfl (zAa rfl (zAa rfl (zAa rfl (zAa rfl zAm)))))⟩
                · clear S E a; intro a w J; obtain ⟨z6, hz6, S, E⟩ := J
                  skip
                  refine zAf hK ?_; clear hK; clear K
                  refine zBf E rfl (fun hb => ?_) (fun hb => ?_)
                  · replace hb := Nrm.nrm hb
                    have hk6 := hz6.1 hb
                    refine zAb ?_
                    refine zp E (zBp (vs := [_, _, _, _, _, _, _, _, _, _, _, _, _]) E rfl rfl rfl (S.get (by repeat (first | exact pk1 | apply zAc))) rfl rfl) ?_; clear E a; intro a E
                    refine zAp E rfl rfl (by decide) rfl Tryz.func33 rfl (by kernel_rfl) rfl (zGw hR hs _ S.hp 2 (by decide) (by decide)) ?_
                    rintro v102 w ⟨rfl, hT⟩; clear E a; intro a E
                    have S := S.all hT
                    refine zp E (zAe E rfl rfl) ?_; clear E a; intro a E
                    refine zAs E (t := 103) rfl (fun hb103 => ?_) (fun hb103 => ?_)
                    · have hb103n := hb103; replace hb103n := Nrm.nrm hb103n
                      refine zy E hb103 (by first | exact zAg (q := 10) E rfl rfl rfl | exact zAh (q := 10) E rfl rfl rfl) ?_; clear E a; intro a E
                      refine zy E hb103 (by first | exact zAo E rfl rfl rfl (S.get (by repeat (first | exact pk1 | apply zAc))) rfl | exact zAj E rfl rfl rfl (by assumption)) ?_; clear E a; intro a E
                      refine zy E hb103 (zEd E rfl rfl rfl) ?_; clear E a; intro a E
                      refine zp E (zAl E rfl rfl hb103 rfl) ?_; clear E a; intro a E
                      refine zp E (zAe E rfl rfl) ?_; clear E a; intro a E
                      refine zAs E (t := 108) rfl (fun hb108 => ?_) (fun hb108 => ?_)
                      · have hb108n := hb108; replace hb108n := Nrm.nrm hb108n
                        refine zy E hb108 (by first | exact zAg (q := 10) E rfl rfl rfl | exact zAh (q := 10) E rfl rfl rfl) ?_; clear E a; intro a E
                        refine zy E hb108 (by first | exact zAo E rfl rfl rfl (S.get (by repeat (first | exact pk1 | apply zAc))) rfl | exact zAj E rfl rfl rfl (by assumption)) ?_; clear E a; intro a E
                        refine zy E hb108 (zEi E rfl rfl rfl) ?_; clear E a; intro a E
                        refine zp E (zAl E rfl rfl hb108 rfl) ?_; clear E a; intro a E
                        refine zp E (zAd E rfl rfl) ?_; clear E a; intro a E
                        refine wpList_nil ?_
                        refine zBi ?_
                        refine zAu ?_
                        refine ⟨_, ?_, S, E.keep (zAa rfl (zAa rfl (zAa rfl zAm)))⟩
                        first
                          | (rw [ck1 hk1]; clear hT E S; clear hR hs hC H; simp_all <;> omega)
                          | (rw [ck2 hk2]; clear hT E S; clear hR hs hC H; simp_all)
                          | (rw [ck3 hk3]; clear hT E S; clear hR hs hC H; simp_all)
                          | (rw [ck4 hk4]; simp only [may4]; clear hT E S; clear hR hs hC H; simp_all <;> omega)
                          | (rw [ck5 hk5]; simp only [may5]; clear hT E S; clear hR hs hC H; simp_all <;> omega)
                          | (rw [ck6 hk6]; simp only [may6]; clear hT E S; clear hR hs hC H; simp_all <;> omega)
                          | (rw [ck0 (by unfold inK; omega)])
                      · have hb108n := hb108; replace hb108n := Nrm.nrm hb108n
                        iterate 3 (refine zn E hb108 ?_; clear E a; intro a E)
                        refine zp E (zAi E rfl rfl hb108 rfl) ?_; clear E a; intro a E
                        refine zp E (zAd E rfl rfl) ?_; clear E a; intro a E
                        refine wpList_nil ?_
                        refine zBi ?_
                        refine zAu ?_
                        refine ⟨_, ?_, S, E.keep (zAa rfl (zAa rfl (zAa rfl zAm)))⟩
                        first
                          | (rw [ck1 hk1]; clear hT E S; clear hR hs hC H; simp_all <;> omega)
                          | (rw [ck2 hk2]; clear hT E S; clear hR hs hC H; simp_all)
                          | (rw [ck3 hk3]; clear hT E S; clear hR hs hC H; simp_all)
                          | (rw [ck4 hk4]; simp only [may4]; clear hT E S; clear hR hs hC H; simp_all <;> omega)
                          | (rw [ck5 hk5]; simp only [may5]; clear hT E S; clear hR hs hC H; simp_all <;> omega)
                          | (rw [ck6 hk6]; simp only [may6]; clear hT E S; clear hR hs hC H; simp_all <;> omega)
                          | (rw [ck0 (by unfold inK; omega)])
                    · have hb103n := hb103; replace hb103n := Nrm.nrm hb103n
                      iterate 3 (refine zn E hb103 ?_; clear E a; intro a E)
                      refine zp E (zAi E rfl rfl hb103 rfl) ?_; clear E a; intro a E
                      refine zp E (zAe E rfl rfl) ?_; clear E a; intro a E
                      iterate 3 (refine zn E rfl ?_; clear E a; intro a E)
                      refine zp E (zAi E rfl rfl rfl rfl) ?_; clear E a; intro a E
                      refine zp E (zAd E rfl rfl) ?_; clear E a; intro a E
                      refine wpList_nil ?_
                      refine zBi ?_
                      refine zAu ?_
                      refine ⟨_, ?_, S, E.keep (zAa rfl (zAa rfl (zAa rfl zAm)))⟩
                      first
                        | (rw [ck1 hk1]; clear hT E S; clear hR hs hC H; simp_all <;> omega)
                        | (rw [ck2 hk2]; clear hT E S; clear hR hs hC H; simp_all)
                        | (rw [ck3 hk3]; clear hT E S; clear hR hs hC H; simp_all)
                        | (rw [ck4 hk4]; simp only [may4]; clear hT E S; clear hR hs hC H; simp_all <;> omega)
                        | (rw [ck5 hk5]; simp only [may5]; clear hT E S; clear hR hs hC H; simp_all <;> omega)
                        | (rw [ck6 hk6]; simp only [may6]; clear hT E S; clear hR hs hC H; simp_all <;> omega)
                        | (rw [ck0 (by unfold inK; omega)])
                  · replace hb := Nrm.nrm hb
                    have hk6 : ¬ (r.kind = 6 ∨ r.kind = 7) := fun q => by rw [hz6.2 q] at hb; cases hb
                    refine wp_skip ?_
                    refine zBi ?_
                    refine zAu ?_
                    refine ⟨_, ?_, S, E.keep (zAa rfl (zAa rfl (zAa rfl zAm)))⟩
                    first
                      | (rw [ck1 hk1]; clear hT E S; clear hR hs hC H; simp_all <;> omega)
                      | (rw [ck2 hk2]; clear hT E S; clear hR hs hC H; simp_all)
                      | (rw [ck3 hk3]; clear hT E S; clear hR hs hC H; simp_all)
                      | (rw [ck4 hk4]; simp only [may4]; clear hT E S; clear hR hs hC H; simp_all <;> omega)
                      | (rw [ck5 hk5]; simp only [may5]; clear hT E S; clear hR hs hC H; simp_all <;> omega)
                      | (rw [ck6 hk6]; simp only [may6]; clear hT E S; clear hR hs hC H; simp_all <;> omega)
                      | (rw [ck0 (by unfold inK; omega)])
    · clear S E a; intro a w J; obtain ⟨z, hz, S, E⟩ := J
      refine zAf hK ?_; clear hK; clear K
      iterate 2 (refine wp_seq_k ?_; intro K hK)
      refine zAb ?_
      refine zp E (zAe E rfl rfl) ?_; clear E a; intro a E
      refine zp E (zDq E rfl rfl) ?_; clear E a; intro a E
      refine wpList_nil ?_
      refine zAf hK ?_; clear hK; clear K
      refine zBf E rfl (fun hb => ?_) (fun hb => ?_)
      · replace hb := Nrm.nrm hb
        refine wp_seq_k ?_; intro K hK
        refine zAb ?_
        refine zp E (zAd E rfl rfl) ?_; clear E a; intro a E
        refine wpList_nil ?_
        refine zAf hK ?_; clear hK; clear K
        refine wp_ret ?_
        refine zAv ?_; clear hK; clear K
        refine ret1 E rfl rfl ?_
        exact ⟨_, rfl, by simp at hb; rw [hz] at hb; simp [ckE, hb], S.tail.tr⟩
      · replace hb := Nrm.nrm hb
        refine wp_skip ?_
        refine zAf hK ?_; clear hK; clear K
        refine wp_seq_k ?_; intro K hK
        refine zAb ?_
        refine zp E (zAd E rfl rfl) ?_; clear E a; intro a E
        refine wpList_nil ?_
        refine zAf hK ?_; clear hK; clear K
        refine wp_ret ?_
        refine ret1 E rfl rfl ?_
        exact ⟨_, rfl, by simp at hb; rw [hz] at hb; simp [ckE, hb], S.tail.tr⟩
end
end Go.Proofs.YtbogecljkaimdaaGreatDoor
namespace Go.Sl
section
variable {P : Program} {a : Act} {w : World} {n : Nat} {e : List (Nat × Value)} {fn : Func} {R : Ending → World → Prop}
theorem ret_tc (E : Fr a n e) {q t : Nat} {v : Value} {ty : TypeId} {b : Nat} {vs : List Value} {T : TypeId} {fr : Nat × Nat} (hr : fn.results = #[.tmp q, .cell t ty]) (hv : lk e q = some v) (hp : lk e t = some (.pointer (some ⟨b, 0, none⟩)))
    (hb : w.heap[b]? = some (.cells vs.toArray T fr)) (hs : zEv P ty = some vs.length) (h : R (.returned (.tuple #[v, .agg vs.toArray])) w) : bodyPost P fn R .ret a w :=
  ⟨E.nod, .tuple #[v, .agg vs.toArray], by
    have h1 := zEq (P := P) hb hs
    have h2 := E.get t _ hp
    have h4 := E.get q _ hv
    simp [results, hr, h2, h4, asAddr, h1], h⟩
end
theorem St.front7 {w0 w : World} {As Ls L1 L2 L3 L4 L5 L6 L7 : List zAy} {A B C D F G I : zAy} (S : St w0 As w Ls) (p : Ls.Perm (A :: L1)) (q : L1.Perm (B :: L2)) (r : L2.Perm (C :: L3)) (t : L3.Perm (D :: L4)) (u : L4.Perm (F :: L5)) (v : L5.Perm (G :: L6)) (x : L6.Perm (I :: L7)) : St w0 As w (A :: B :: C :: D :: F :: G :: I :: L7) := S.front6 p q r t u (v.trans (x.cons _))
end Go.Sl
