/-
  Texts put together (12).
-/
import Derived.Test.YtpjidiaekifmbaaGreatDoorZParityRows11
set_option maxHeartbeats 1000000
namespace Go.Sl
theorem Rd.cut3 {C : zAj} {s m : Nat} {xs : List Value} {ad : Option Addr} {c lo hi mx : Nat} (h : Rd C s (.slice ad m c) m xs) (h1 : lo ≤ hi) (h2 : hi ≤ m) (h3 : hi ≤ mx) :
  ∃ ad2, sliced ad lo hi mx s = .slice ad2 (hi - lo) (mx - lo) ∧ Rd C s (.slice ad2 (hi - lo) (mx - lo)) (hi - lo) ((xs.drop (lo * s)).take ((hi - lo) * s)) :=
 ⟨_, rfl, h.piece rfl h1 h2 h3⟩
theorem zLh (w : Nat) {ss : List (List UInt8)} {i : Nat} (hi : i < ss.length) : blkF w 0 (ss.take (i + 1)) = blkF w 0 (ss.take i) ++ (if i % w = 0 then [] else ss[i]) := by
 rw [← List.take_append_getElem hi, blkF_app, List.length_take, Nat.min_eq_left oZ, Nat.zero_add, blkF, blkF, List.append_nil]
theorem blkF_le (w : Nat) : ∀ (i : Nat) (ss : List (List UInt8)), Secs ss → (blkF w i ss).length ≤ 128 * ss.length
 | _, [], _ => by simp [blkF]
 | i, s :: l, h => by
  have := blkF_le w (i + 1) l (fun t ht => h t (List.mem_cons_of_mem _ ht))
  have hs := h s (List.mem_cons_self ..)
  rw [blkF, List.length_append, List.length_cons]
  split
  ·simp only [List.length_nil]; omega
  ·omega
end Go.Sl
namespace Go.Proofs.YtpjidiaekifmbaaGreatDoor
open Go.Sl
set_option maxRecDepth 10000
section
variable (t : Nat) (ad : Option Addr) (wd c : Nat) (vk : Value) (z : Int) (As : List zAj) (hTA : [(t, ptcl (.slice ad wd c) vk z)] ∈ As) (hw : 3 ≤ wd ∧ wd ≤ 5)
include hTA hw
theorem pon_ret (xs : List (Nat × Nat)) (hxw : xs.length = wd) (CL : zAj) (hCA : CL ∈ As) (hCL : Buf CL 53 1 (.slice ad wd c) wd (xs.map fun y => ptr y.1)) (x : Nat) (hx : x ≤ 1000000) (w0 : World) (H : Hp w0 As) :
  Ret Tryz.prog 76 #[ptr t, .int .i64 x] w0 fun u w' => u = .tuple #[ptr (onX xs x).1, .int .i64 (x % wd : Nat), .int .i64 (x / wd : Nat)] ∧ Trs w0 w' As As := by
 have S := St.begin H
 have hml := Nat.mod_lt x (show 0 < wd by omega)
 have hdl := Nat.div_le_self x wd
 obtain ⟨xm, hxm⟩ : ∃ xm, xm = x % wd := ⟨_, rfl⟩
 obtain ⟨xd, hxd⟩ : ∃ xd, xd = x / wd := ⟨_, rfl⟩
 rw [← hxm] at hml
 rw [← hxd] at hdl
 rw [← hxm, ← hxd]
 have hmod : (x : Int).tmod wd = ((xm : Nat) : Int) := by rw [zIi, ← hxm]
 have hdiv : IntKind.i64.wrap ((x : Int).tdiv wd) = ((xd : Nat) : Int) := by rw [zJq, ← hxd]; exact w_in oZ
 have hcell : (xs.map fun y => ptr y.1)[xm]? = some (ptr (onX xs x).1) := by
  have := (zEg (xs := xs) oZ x).2
  rw [List.getElem?_map, hxm, ← hxw, this]; rfl
 obtain ⟨g, rfl⟩ := hCL.addr oZ
 refine zBx 25 Tryz.func76 rfl rfl dZ ?_; intro a E
 refine wp_seq_k ?_; intro K hK
 refine zAa ?_
 iterate 3 (refine zd E ?_; clear E a; intro a E)
 refine wpList_nil ?_
 refine zAb hK ?_; clear hK K
 refine wp_seq_k ?_; intro K hK
 refine zAw S (.ofL [(0, 0), (1, 0), (2, 0), (3, 0), (4, 0), (5, 0), (10, 0), (11, 0), (14, 0), (15, 0), (6, 1), (7, 0), (8, 0), (9, 0), (12, 1), (13, 0), (16, 1), (17, 0), (18, 0), (19, 0), (20, 0)]) yZ yZ ?_
 clear S; intro w S
 iterate 2 (refine zmd E ?_; clear E a; intro a E)
 refine zm E rfl (fun w h => by first | exact zAc (q := 0) E rfl rfl rfl | exact zAd (q := 0) E rfl rfl rfl) ?_; clear E a; intro a E
 refine zm E rfl (fun w h => zAo E rfl rfl rfl (zBv (j := 0) (h.at hTA _ (List.mem_singleton.2 rfl)) rfl)) ?_; clear E a; intro a E
 iterate 6 (refine zmd E ?_; clear E a; intro a E)
 refine zBo E rfl rfl rfl dZ rfl Tryz.func36 rfl yZ rfl (zCt t _ wd c vk z As hTA _ S.hp) ?_
 rintro v13 w ⟨rfl, hT⟩; clear E a; intro a E
 have S := S.all hT
 refine ⟨S.stab.sub (by first | (simp; done) | (simp +contextual; done) | (simp [*]; done)), ?_⟩
 refine zm E rfl (fun w h => zGh E rfl rfl rfl (by first | decide | omega) (hmod)) ?_; clear E a; intro a E
 refine zm E rfl (fun w h => zAp (i := xm) E rfl rfl rfl rfl rfl rfl oZ) ?_; clear E a; intro a E
 refine zm E rfl (fun w h => zAo E rfl rfl rfl (hCL.rd.cells (h.at hCA) rfl xm _ hcell)) ?_; clear E a; intro a E
 refine zBo E rfl rfl rfl dZ rfl Tryz.func36 rfl yZ rfl (zCt t _ wd c vk z As hTA _ S.hp) ?_
 rintro v19 w ⟨rfl, hT⟩; clear E a; intro a E
 have S := S.all hT
 refine ⟨S.stab.sub (by first | (simp; done) | (simp +contextual; done) | (simp [*]; done)), ?_⟩
 refine zm E rfl (fun w h => zGh E rfl rfl rfl (by first | decide | omega) (hmod)) ?_; clear E a; intro a E
 refine zBo E rfl rfl rfl dZ rfl Tryz.func36 rfl yZ rfl (zCt t _ wd c vk z As hTA _ S.hp) ?_
 rintro v23 w ⟨rfl, hT⟩; clear E a; intro a E
 have S := S.all hT
 refine ⟨S.stab.sub (by first | (simp; done) | (simp +contextual; done) | (simp [*]; done)), ?_⟩
 refine zm E rfl (fun w h => zGg E rfl rfl rfl (by first | decide | omega) (hdiv)) ?_; clear E a; intro a E
 iterate 3 (refine zmd E ?_; clear E a; intro a E)
 refine zBd ?_
 refine zAb hK ?_; clear hK K
 refine wp_ret ?_
 refine ret3 E rfl rfl rfl rfl ?_
 exact ⟨_, rfl, rfl, S.tr⟩
theorem zEh (v : Value) (V D : zAj) (vs : List Value) (ss : List (List UInt8)) (hV : Rd V 1 v vs.length vs) (hD : zCv D vs ss) (hl : ss.length ≤ 1000) (hVA : V ∈ As) (hDA : D ∈ As) (n : Nat) (hn : 1 ≤ n ∧ n ≤ (blkF wd 0 ss).length) (w0 : World) (H : Hp w0 As) :
  Ret Tryz.prog 43 #[ptr t, v, .int .i64 n] w0 fun u w' => ∃ g C, u = .slice (some ⟨g, 0, none⟩) n n ∧ Rd C 1 (.slice (some ⟨g, 0, none⟩) n n) n (byt ((blkF wd 0 ss).take n)) ∧ Trs w0 w' As (C :: As) := by
 have S := (St.begin H).addNil
 have hvl : vs.length = ss.length := hD.1
 obtain ⟨adv, cv, rfl⟩ := hV.slice
 have hss := hD.secs
 have hble := blkF_le wd 0 ss hss
 refine zDi 30 Tryz.func43 rfl rfl dZ ?_; intro a E
 refine wp_seq_k ?_; intro K hK
 refine zAa ?_
 refine zd E ?_; clear E a; intro a E
 refine wpList_nil ?_
 refine zAb hK ?_; clear hK K
 refine wp_seq_k ?_; intro K hK
 refine zAa ?_
 refine zd E ?_; clear E a; intro a E
 refine wpList_nil ?_
 refine zAb hK ?_; clear hK K
 iterate 2 (refine wp_seq_k ?_; intro K hK)
 refine zAa ?_
 iterate 3 (refine zd E ?_; clear E a; intro a E)
 refine wpList_nil ?_
 refine zAb hK ?_; clear hK K
 refine wp_block ?_
 refine wp_loop_ghost (fun (m : Nat) (a : Act) (w' : World) => ∃ (i : Nat) (C : zAj) (vb : Value), m = ss.length - i ∧ i ≤ ss.length ∧ Buf C 5 1 vb (blkF wd 0 (ss.take i)).length (byt (blkF wd 0 (ss.take i))) ∧ St w0 As w' (C :: As) ∧ Fr a 30 [(0, ptr t), (2, .int .i64 n), (7, vb), (10, .slice adv vs.length cv), (11, .int .i64 vs.length), (12, .int .i64 i)]) (ss.length - 0) ?_ ?_
 ·exact ⟨0, [], _, rfl, by omega, by simp [blkF]; exact Buf.nil _ _, S, E.keep (kE6 rfl rfl rfl rfl rfl rfl)⟩
 clear E; clear a; (try clear S); rintro m a w ⟨i, C, vb, rfl, hi, hC, S, E⟩
 refine wp_seq_k ?_; intro K hK
 refine zAa ?_
 refine zd E ?_; clear E a; intro a E
 refine wpList_nil ?_
 refine zAb hK ?_; clear hK K
 refine wp_seq_k ?_; intro K hK
 refine zAs E rfl (fun hb => ?_) (fun hb => ?_)
 ·replace hb := Nrm.nrm hb
  refine wp_skip ?_
  refine zAb hK ?_; clear hK K
  refine wp_seq_k ?_; intro K hK
  refine wp_block ?_
  refine wp_seq_k ?_; intro K hK
  have hil : i < ss.length := by omega
  obtain ⟨vi, hvi, hsv⟩ := hD.at hil
  obtain ⟨g, off, rfl⟩ := hV.addr oZ
  obtain ⟨gs, os, cs, rfl, hcs⟩ := hsv.addr
  have hnext := zLh wd hil
  have hbl2 := blkF_le wd 0 (ss.take i) (hss.take i)
  rw [List.length_take] at hbl2
  have hs1 := hsv.1
  obtain ⟨xm, hxm⟩ : ∃ xm, xm = i % wd := ⟨_, rfl⟩
  have hml := Nat.mod_lt i (show 0 < wd by omega)
  rw [← hxm] at hml hnext
  have hmod : (i : Int).tmod wd = ((xm : Nat) : Int) := by rw [zIi, ← hxm]
  refine zAa ?_
  refine zd E ?_; clear E a; intro a E
  refine zp E (by first | exact zAp E rfl rfl rfl rfl rfl rfl oZ | exact zAz E rfl rfl rfl rfl rfl rfl oZ | exact zAm E rfl rfl rfl rfl rfl rfl oZ) ?_; clear E a; intro a E
  refine zp E (zAo E rfl rfl rfl (hV.cells (S.stab.at mZ) rfl i _ hvi)) ?_; clear E a; intro a E
  iterate 2 (refine zd E ?_; clear E a; intro a E)
  refine wpList_nil ?_
  refine zAb hK ?_; clear hK K
  refine wp_seq_k ?_; intro K hK
  refine zAa ?_
  iterate 2 (refine zd E ?_; clear E a; intro a E)
  refine zAg E rfl rfl dZ rfl Tryz.func36 rfl yZ rfl (zCt t ad wd c vk z _ (List.Mem.tail _ hTA) _ S.hp) ?_
  rintro v19 w ⟨rfl, hT⟩; clear E a; intro a E
  have S := S.all hT
  refine zp E (zGh E rfl rfl rfl (by first | decide | omega) (hmod)) ?_; clear E a; intro a E
  refine zd E ?_; clear E a; intro a E
  refine wpList_nil ?_
  refine zAb hK ?_; clear hK K
  refine zAs E rfl (fun hb => ?_) (fun hb => ?_)
  ·replace hb := Nrm.nrm hb
   rw [if_neg oZ] at hnext
   refine zAa ?_
   iterate 2 (refine zd E ?_; clear E a; intro a E)
   refine zAf rfl (zBl (by' := 1) E S rfl rfl dZ rfl rfl hC pZ (hsv.rd.src (S.stab.at (List.Mem.tail _ hDA)) rfl) rfl rfl rfl rfl rfl rfl (by simp only [maxLen]; omega) oZ ?_); clear E S a; intro a w v24 C24 E S hB24
   refine zd E ?_; clear E a; intro a E
   refine wpList_nil ?_
   refine zAq ?_
   refine zAb hK ?_; clear hK K
   refine zAa ?_
   refine zp E (zAy E rfl rfl rfl (by first | exact zBq (y := 1) oZ | exact w_in oZ | exact zBj oZ | exact rfl)) ?_; clear E a; intro a E
   refine zd E ?_; clear E a; intro a E
   refine wpList_nil ?_
   refine zAn ?_
   exact ⟨_, by omega, i + 1, C24, v24, rfl, by omega, by rw [hnext, List.length_append, zBw]; exact hB24, S, E.keep (kE6 rfl rfl rfl rfl rfl rfl)⟩
  ·replace hb := Nrm.nrm hb
   rw [if_pos oZ, List.append_nil] at hnext
   refine wp_skip ?_
   refine zAq ?_
   refine zAb hK ?_; clear hK K
   refine zAa ?_
   refine zp E (zAy E rfl rfl rfl (by first | exact zBq (y := 1) oZ | exact w_in oZ | exact zBj oZ | exact rfl)) ?_; clear E a; intro a E
   refine zd E ?_; clear E a; intro a E
   refine wpList_nil ?_
   refine zAn ?_
   exact ⟨_, by omega, i + 1, C, vb, rfl, by omega, by rw [hnext]; exact hC, S, E.keep (kE6 rfl rfl rfl rfl rfl rfl)⟩
 ·replace hb := Nrm.nrm hb
  refine wp_exit ?_
  refine zAl ?_; clear hK K
  refine zAl ?_
  refine zBi ?_
  refine zAb hK ?_; clear hK K
  refine wp_seq_k ?_; intro K hK
  obtain rfl : i = ss.length := by omega
  rw [List.take_length] at hC
  obtain ⟨adb, cb, rfl⟩ := hC.slice
  obtain ⟨gb, rfl⟩ := hC.addr oZ
  have hcap := hC.cap_le
  have hR : Rd C 1 (.slice (some ⟨gb, 0, none⟩) n n) n (byt ((blkF wd 0 ss).take n)) := by
   have h1 := hC.rd.piece rfl (lo := 0) (hi := n) (mx := n) (Nat.zero_le _) hn.2 (Nat.le_refl _)
   rw [sliced_pre, Nat.zero_mul, List.drop_zero, Nat.sub_zero, Nat.mul_one, zEl] at h1
   exact h1
  refine zAa ?_
  iterate 3 (refine zd E ?_; clear E a; intro a E)
  refine zp E (zKf (s := 1) E rfl rfl rfl rfl rfl rfl rfl rfl oZ oZ) ?_; clear E a; intro a E
  rw [sliced_pre] at E
  refine zd E ?_; clear E a; intro a E
  refine wpList_nil ?_
  refine zAb hK ?_; clear hK K
  refine wp_ret ?_
  refine ret1 E rfl rfl ?_
  exact ⟨_, rfl, gb, C, rfl, hR, S.tr⟩
end
end Go.Proofs.YtpjidiaekifmbaaGreatDoor
namespace Go.Sl
def dsP (k : Nat) (b : List UInt8) : List (List UInt8) := (List.range k).map fun i => (b.drop (i * 128)).take 128
theorem dsP_len (k : Nat) (b : List UInt8) : (dsP k b).length = k := by simp [dsP]
theorem dsP_at {k i : Nat} {b : List UInt8} (hi : i < k) : (dsP k b)[i]'(by rw [dsP_len]; exact hi) = (b.drop (i * 128)).take 128 := by simp [dsP]
theorem dsP_secs {k : Nat} {b : List UInt8} (h : b.length = k * 128) : Secs (dsP k b) := fun s hs => by
 obtain ⟨i, hi, rfl⟩ := List.mem_iff_getElem.1 hs
 rw [dsP_len] at hi
 rw [dsP_at hi, List.length_take, List.length_drop]; omega
theorem dsP_flat : ∀ (k : Nat) (b : List UInt8), b.length = k * 128 → (dsP k b).flatten = b
 | 0, b, h => by
  have : b = [] := List.length_eq_zero_iff.1 oZ
  subst this; rfl
 | k + 1, b, h => by
  have ih := dsP_flat k (b.take (k * 128)) (by rw [List.length_take]; omega)
  have e : dsP (k + 1) b = dsP k (b.take (k * 128)) ++ [(b.drop (k * 128)).take 128] := by
   unfold dsP
   rw [List.range_succ, List.map_append]
   congr 1
   refine List.map_congr_left fun i hi => ?_
   rw [List.mem_range] at hi
   rw [List.drop_take, List.take_take, Nat.min_eq_left oZ]
  rw [e, List.flatten_append, ih]
  simp only [List.flatten_cons, List.flatten_nil, List.append_nil]
  rw [List.take_of_length_le (l := b.drop (k * 128)) (by rw [List.length_drop]; omega), List.take_append_drop]
def layP (wd : Nat) (b : List UInt8) : List (List UInt8) := layL wd (dsP (zDq b.length).toNat (padM b))
theorem layG_more (wd : Nat) (kf : Nat) (ds : List (List UInt8)) (h : ds ≠ []) (hk : ds.length ≤ kf) (hw : 2 ≤ wd) : ∃ kf', layG wd kf ds = (xall (ds.take (wd - 1)) :: ds.take (wd - 1)) ++ layG wd kf' (ds.drop (wd - 1)) ∧ (ds.drop (wd - 1)).length ≤ kf' := by
 cases kf with
 | zero => exact absurd (List.length_eq_zero_iff.1 oZ) h
 | succ kf =>
  refine ⟨kf, by rw [layG, if_neg h], ?_⟩
  have := List.length_pos_iff.2 h
  rw [List.length_drop]; omega
end Go.Sl
namespace Go.Proofs.YtpjidiaekifmbaaGreatDoor
open Go.Sl
set_option maxRecDepth 10000
theorem zKv (t : Nat) (ad : Option Addr) (wd c : Nat) (vk : Value) (z : Int) (As : List zAj) (hTA : [(t, ptcl (.slice ad wd c) vk z)] ∈ As) (hw : 3 ≤ wd ∧ wd ≤ 5)
  (v : Value) (b : List UInt8) (O : zAj) (hO : Rd O 1 v b.length (byt b)) (hOA : O ∈ As) (hb1 : 1 ≤ b.length ∧ b.length ≤ 1024) (w0 : World) (H : Hp w0 As) :
  Ret Tryz.prog 34 #[ptr t, v] w0 fun u w' => ∃ vo Co D vs, u = vo ∧ Buf Co 22 1 vo (layP wd b).length vs ∧ zCv D vs (layP wd b) ∧ Trs w0 w' As (Co :: D :: As) := by
 have S := St.begin H
 have hnb := zHa b.length
 obtain ⟨k, hk⟩ : ∃ k : Nat, zDq b.length = k := ⟨(zDq b.length).toNat, by omega⟩
 have hkv : (k : Int) = (b.length + 127) / 128 := by rw [← hk]; unfold zDq; rw [if_neg oZ]
 have hpl := zHr (b := b) oZ
 rw [hk, Int.toNat_natCast] at hpl
 have hpe : padM b = b ++ List.replicate (k * 128 - b.length) 0 := by rw [padM, hk, Int.toNat_natCast]
 obtain ⟨pb, hpb⟩ : ∃ pb, pb = padM b := ⟨_, rfl⟩
 obtain ⟨ds, hds⟩ : ∃ ds, ds = dsP k pb := ⟨_, rfl⟩
 have hlay : layP wd b = layL wd ds := by rw [layP, hk, Int.toNat_natCast, ← hpb, hds]
 rw [hlay]
 rw [← hpb] at hpl hpe
 have hdl : ds.length = k := by rw [hds, dsP_len]
 have hdat : ∀ i (h : i < k), ds[i]'oZ = (pb.drop (i * 128)).take 128 := fun i h => by subst hds; exact dsP_at h
 have hsecs : Secs ds := by rw [hds]; exact dsP_secs hpl
 obtain ⟨adb, cb, rfl⟩ := hO.slice
 refine zBx 45 Tryz.func34 rfl rfl dZ ?_; intro a E
 refine wp_seq_k ?_; intro K hK
 refine zAa ?_
 refine zd E ?_; clear E a; intro a E
 refine wpList_nil ?_
 refine zAb hK ?_; clear hK K
 refine wp_seq_k ?_; intro K hK
 refine zAa ?_
 iterate 2 (refine zd E ?_; clear E a; intro a E)
 refine zAg E rfl rfl dZ rfl Tryz.func38 rfl yZ rfl (pup_ret b.length 128 oZ oZ _) ?_
 rintro v10 w ⟨rfl, hT⟩; clear E a; intro a E
 have S := S.quiet hT; rw [show (b.length + 128 - 1) / 128 = k by omega] at E
 refine zp E (zCx E rfl rfl rfl (w_in oZ)) ?_; clear E a; intro a E
 refine zAf rfl (zCn (by' := 1) E S rfl rfl dZ rfl rfl rfl rfl rfl rfl rfl rfl rfl rfl rfl (k := k * 128) (mkb oZ) (by simp only [maxLen]; omega) ?_); clear E S a; intro a w g12 E S
 rw [← zFd] at S
 refine zd E ?_; clear E a; intro a E
 refine wpList_nil ?_
 refine zAb hK ?_; clear hK K
 refine wp_seq_k ?_; intro K hK
 refine zAa ?_
 iterate 2 (refine zd E ?_; clear E a; intro a E)
 refine zAf rfl (zHk E S rfl rfl dZ rfl rfl (m := b.length) (l := byt (List.replicate (k * 128) 0)) pZ (hO.copySrc (S.stab.at (List.Mem.tail _ hOA)) rfl) rfl rfl (by rw [zAv, List.length_replicate]; omega) ?_); clear E S a; intro a w E S
 refine wpList_nil ?_
 refine zAb hK ?_; clear hK K
 refine wp_seq_k ?_; intro K hK
 have e : (byt (List.replicate (k * 128) 0)).take 0 ++ (byt b).take (min b.length (k * 128)) ++ (byt (List.replicate (k * 128) 0)).drop (0 + min b.length (k * 128)) = byt pb := by
  rw [Nat.min_eq_left oZ, Nat.zero_add, List.take_zero, List.nil_append, List.take_of_length_le (by rw [zAv]; omega), zEx, List.drop_replicate, hpe, zBw]
 rw [e] at S
 have S := S.addNil
 refine zAa ?_
 refine zd E ?_; clear E a; intro a E
 refine wpList_nil ?_
 refine zAb hK ?_; clear hK K
 refine wp_seq_k ?_; intro K hK
 refine wp_block ?_
 refine wp_loop_ghost (fun (m : Nat) (a : Act) (w' : World) => ∃ (p : Nat) (acc : List (List UInt8)) (kf : Nat) (Co D : zAj) (vo : Value) (vs : List Value) (ada : Option Addr) (ca : Nat), m = k - p ∧ p ≤ k ∧ layL wd ds = acc ++ layG wd kf (ds.drop p) ∧ (ds.drop p).length ≤ kf ∧ acc.length ≤ 100 ∧ acc.length ≤ 2 * p ∧ Buf Co 22 1 vo acc.length vs ∧ zCv D vs acc ∧ k * 128 - p * 128 ≤ ca ∧ Rd D 1 (.slice ada (k * 128 - p * 128) ca) (k * 128 - p * 128) (byt (pb.drop (p * 128))) ∧ St w0 As w' (Co :: D :: As) ∧
  Fr a 45 [(0, ptr t), (5, .slice ada (k * 128 - p * 128) ca), (6, vo)]) (k - 0) ?_ ?_
 ·exact ⟨0, [], k, [], _, _, [], _, _, rfl, by omega, by rw [List.drop_zero, List.nil_append, layL, hdl], by rw [List.drop_zero]; omega, by simp, by simp, Buf.nil _ _, All2.nil, by omega, by rw [Nat.zero_mul, List.drop_zero, Nat.sub_zero]; exact zBn (T := 5) (by rw [zAv]; omega) (zCq _) oZ _, S, E.keep (kE3 rfl rfl rfl)⟩
 clear E; clear a; (try clear S); rintro m a w ⟨p, acc, kf, Co, D, vo, vs, ada, ca, rfl, hpk, hacc, hkf, hal, hal2, hCo, hD, hca, hR, S, E⟩
 iterate 2 (refine wp_seq_k ?_; intro K hK)
 refine zAa ?_
 iterate 3 (refine zd E ?_; clear E a; intro a E)
 refine wpList_nil ?_
 refine zAb hK ?_; clear hK K
 refine zAs E rfl (fun hb => ?_) (fun hb => ?_)
 ·replace hb := Nrm.nrm hb
  have hpl2 : p < k := oZ
  refine wp_skip ?_
  refine zAb hK ?_; clear hK K
  refine wp_block ?_
  refine wp_seq_k ?_; intro K hK
  refine zAa ?_
  refine zd E ?_; clear E a; intro a E
  refine wpList_nil ?_
  refine zAb hK ?_; clear hK K
  refine wp_seq_k ?_; intro K hK
  refine wp_block ?_
  refine wp_loop_ghost (fun (m : Nat) (a : Act) (w' : World) => ∃ (j : Nat) (Cr : zAj) (vr : Value) (vrs : List Value) (ada2 : Option Addr) (ca2 : Nat), m = wd - 1 - j ∧ j ≤ wd - 1 ∧ p + j ≤ k ∧ Buf Cr 22 1 vr j vrs ∧ zCv D vrs ((ds.drop p).take j) ∧ k * 128 - (p + j) * 128 ≤ ca2 ∧ Rd D 1 (.slice ada2 (k * 128 - (p + j) * 128) ca2) (k * 128 - (p + j) * 128) (byt (pb.drop ((p + j) * 128))) ∧ St w0 As w' (Cr :: Co :: D :: As) ∧
   Fr a 45 [(0, ptr t), (5, .slice ada2 (k * 128 - (p + j) * 128) ca2), (6, vo), (7, vr)]) (wd - 1 - 0) ?_ ?_
  ·exact ⟨0, [], _, [], ada, ca, rfl, by omega, by omega, Buf.nil _ _, All2.nil, hca, hR, S.addNil, E.keep (kE4 rfl rfl rfl rfl)⟩
  clear E; clear a; (try clear S); rintro m a w ⟨j, Cr, vr, vrs, ada2, ca2, rfl, hj, hpj, hCr, hVr, hca2, hR2, S, E⟩
  iterate 2 (refine wp_seq_k ?_; intro K hK)
  obtain ⟨adr, cr, rfl⟩ := hCr.slice
  refine zDl (fun (a : Act) (w' : World) => ∃ bt : Bool, (bt = true ↔ j < wd - 1 ∧ p + j < k) ∧ St w0 As w' (Cr :: Co :: D :: As) ∧ Fr a 45 [(0, ptr t), (5, .slice ada2 (k * 128 - (p + j) * 128) ca2), (6, vo), (7, .slice adr j cr), (29, .bool bt)]) ?_ ?_
  ·skip
   refine zAa ?_
   iterate 3 (refine zd E ?_; clear E a; intro a E)
   refine zAg E rfl rfl dZ rfl Tryz.func36 rfl yZ rfl (zCt t ad wd c vk z _ (List.Mem.tail _ (List.Mem.tail _ (List.Mem.tail _ hTA))) _ S.hp) ?_
   rintro v22 w ⟨rfl, hT⟩; clear E a; intro a E
   have S := S.all hT
   refine zp E (zCo E rfl rfl rfl (w_in oZ)) ?_; clear E a; intro a E
   iterate 2 (refine zd E ?_; clear E a; intro a E)
   refine zAr E (t := 25) rfl (fun hb25 => ?_) (fun hb25 => ?_)
   ·have hb25n := hb25; replace hb25n := Nrm.nrm hb25n
    iterate 3 (refine zyd E hb25 ?_; clear E a; intro a E)
    refine zp E (zAi E rfl rfl hb25 rfl) ?_; clear E a; intro a E
    refine wpList_nil ?_
    refine zAx ?_
    exact ⟨_, by simp; omega, S, E.keep (kE5 rfl rfl rfl rfl rfl)⟩
   ·have hb25n := hb25; replace hb25n := Nrm.nrm hb25n
    iterate 3 (refine zn E hb25 ?_; clear E a; intro a E)
    refine zp E (zAk E rfl rfl hb25 rfl) ?_; clear E a; intro a E
    refine wpList_nil ?_
    refine zAx ?_
    exact ⟨_, by simp; omega, S, E.keep (kE5 rfl rfl rfl rfl rfl)⟩
  ·clear E S a; intro a w J; obtain ⟨bt, hbt, S, E⟩ := J
   refine zAb hK ?_; clear hK K
   refine zAs E rfl (fun hb => ?_) (fun hb => ?_)
   ·replace hb := Nrm.nrm hb
    obtain ⟨hjw, hpjk⟩ := hbt.1 hb
    refine wp_skip ?_
    refine zAb hK ?_; clear hK K
    refine wp_block ?_
    refine wp_seq_k ?_; intro K hK
    obtain ⟨ad3, hs3, hR3⟩ := hR2.cut3 (lo := 0) (hi := 128) (mx := 128) oZ oZ oZ
    rw [Nat.zero_mul, List.drop_zero, Nat.sub_zero, Nat.mul_one, zEl] at hR3
    rw [Nat.sub_zero] at hs3
    have hsv : SecV D (.slice ad3 128 128) (ds[p + j]'oZ) := by
     rw [hdat _ hpjk]
     exact ⟨by rw [List.length_take, List.length_drop]; omega, hR3, _, _, rfl, Nat.le_refl _⟩
    refine zAa ?_
    iterate 2 (refine zd E ?_; clear E a; intro a E)
    refine zp E (zKf (s := 1) (hi := 128) (mx := 128) E rfl rfl rfl rfl rfl rfl rfl rfl oZ oZ) ?_; clear E a; intro a E
    rw [hs3] at E
    refine zAf rfl (zBm (cells := [_]) E S rfl rfl dZ rfl rfl rfl rfl rfl dZ rfl ?_); clear E S a; intro a w b33 E S
    refine zAf rfl (zBl (by' := 24) E S rfl rfl dZ rfl rfl hCr pZ ((zBn (g := b33) (T := 22) (xs := [.slice ad3 128 128]) (s := 1) (m := 1) rfl (by simp [Value.oneCell']) oZ 1).src (S.stab.at mZ) rfl) rfl rfl rfl rfl rfl rfl (by simp only [maxLen]; omega) oZ ?_); clear E S a; intro a w v34 C34 E S hB34
    refine zd E ?_; clear E a; intro a E
    refine wpList_nil ?_
    refine zAb hK ?_; clear hK K
    obtain ⟨ad4, hs4, hR4⟩ := hR2.cut3 (lo := 128) (hi := k * 128 - (p + j) * 128) (mx := ca2) oZ oZ oZ
    refine zAa ?_
    refine zd E ?_; clear E a; intro a E
    refine zp E (zGw (s := 1) (lo := 128) E rfl rfl rfl rfl rfl rfl oZ) ?_; clear E a; intro a E
    rw [hs4] at E
    refine zd E ?_; clear E a; intro a E
    refine wpList_nil ?_
    refine zAq ?_
    refine zAn ?_
    have e0 : (ds.drop p).take (j + 1) = (ds.drop p).take j ++ [ds[p + j]'oZ] := by
     have hjl : j < (ds.drop p).length := by rw [List.length_drop]; omega
     rw [← List.take_append_getElem hjl, List.getElem_drop]
    have e1 : k * 128 - (p + j) * 128 - 128 = k * 128 - (p + (j + 1)) * 128 := by omega
    have e2 : ((byt (pb.drop ((p + j) * 128))).drop (128 * 1)).take ((k * 128 - (p + j) * 128 - 128) * 1) = byt (pb.drop ((p + (j + 1)) * 128)) := by
     rw [zEx, List.drop_drop, List.take_of_length_le (by rw [zAv, List.length_drop]; omega)]; congr 2; omega
    rw [e2, e1] at hR4
    rw [e1] at E
    exact ⟨_, by omega, j + 1, C34, v34, _, ad4, ca2 - 128, rfl, by omega, by omega, hB34, by rw [e0]; exact All2.snoc hVr hsv, by omega, hR4, (S.del (A := [(b33, _)]) pZ).front3 (A := C34) pZ (B := Co) pZ (C := D) pZ, E.keep (kE4 rfl rfl rfl rfl)⟩
   ·replace hb := Nrm.nrm hb
    skip
    refine wp_exit ?_
    refine zAl ?_; clear hK K
    refine zAl ?_
    refine zBi ?_
    refine zAb hK ?_; clear hK K
    have hstop : ¬ (j < wd - 1 ∧ p + j < k) := fun q => by rw [hbt.2 q] at hb; cases hb
    have hvrl : vrs.length = ((ds.drop p).take j).length := hVr.1
    have hdpl : (ds.drop p).length = k - p := by rw [List.length_drop, hdl]
    have hrow : (ds.drop p).take j = (ds.drop p).take (wd - 1) := by
     by_cases q : j = wd - 1
     ·rw [q]
     ·rw [List.take_of_length_le oZ, List.take_of_length_le oZ]
    have hrest : ds.drop (p + j) = (ds.drop p).drop (wd - 1) := by
     rw [← List.drop_drop]
     by_cases q : j = wd - 1
     ·rw [q]
     ·rw [List.drop_of_length_le oZ, List.drop_of_length_le oZ]
    rw [List.length_take, hdpl, Nat.min_eq_left oZ] at hvrl
    have hj1 : 1 ≤ j := by omega
    obtain ⟨kf', hm1, hm2⟩ := layG_more wd kf (ds.drop p) (fun q => by rw [q] at hdpl; simp at hdpl; omega) hkf oZ
    obtain ⟨ado, co, rfl⟩ := hCo.slice
    refine zAa ?_
    iterate 2 (refine zd E ?_; clear E a; intro a E)
    refine zAg E rfl rfl dZ rfl Tryz.func75 rfl yZ rfl (pxor_ret _ Cr D vrs _ (by rw [hvrl]; exact hCr.rd) hVr (by rw [List.length_take]; omega) _ mZ mZ _ S.hp) ?_
    rintro v39 w ⟨gx, rfl, hT⟩; clear E a; intro a E
    have S := S.all hT
    refine zAf rfl (zBm (cells := [_]) E S rfl rfl dZ rfl rfl rfl rfl rfl dZ rfl ?_); clear E S a; intro a w b40 E S
    refine zAf rfl (zBl (by' := 24) E S rfl rfl dZ rfl rfl hCo pZ ((zBn (g := b40) (T := 22) (xs := [.slice (some ⟨gx, 0, none⟩) 128 128]) (s := 1) (m := 1) rfl (by simp [Value.oneCell']) oZ 1).src (S.stab.at mZ) rfl) rfl rfl rfl rfl rfl rfl (by simp only [maxLen]; omega) oZ ?_); clear E S a; intro a w v41 C41 E S hB41
    obtain ⟨ad41, c41, rfl⟩ := hB41.slice
    refine zd E ?_; clear E a; intro a E
    refine zAf rfl (zBl (by' := 24) E S rfl rfl dZ rfl rfl hB41 pZ (hCr.rd.src (S.stab.at mZ) rfl) rfl rfl rfl rfl rfl rfl (by simp only [maxLen]; omega) oZ ?_); clear E S a; intro a w v43 C43 E S hB43
    refine zd E ?_; clear E a; intro a E
    refine wpList_nil ?_
    refine zAq ?_
    refine zAn ?_
    have hsx : SecV [(gx, cel (byt (xall ((ds.drop p).take j))) 5)] (.slice (some ⟨gx, 0, none⟩) 128 128) (xall ((ds.drop p).take j)) := ⟨zEy ((hsecs.drop p).take j), zBn (T := 5) (by rw [zAv, zEy ((hsecs.drop p).take j)]) (zCq _) oZ _, _, _, rfl, Nat.le_refl _⟩
    refine ⟨_, by omega, p + j, acc ++ (xall ((ds.drop p).take j) :: (ds.drop p).take j), kf', C43, D ++ [(gx, cel (byt (xall ((ds.drop p).take j))) 5)], v43, vs ++ [.slice (some ⟨gx, 0, none⟩) 128 128] ++ vrs, ada2, ca2, rfl, by omega, ?_, by rw [hrest]; exact hm2, ?_, ?_, ?_, ?_, hca2, hR2.sub fun q hq => List.mem_append_left _ hq, (((S.gather (A := D) (B := [(gx, _)]) pZ pZ).del (A := [(b40, _)]) pZ).del (A := Cr) pZ).front2 (A := C43) pZ (B := D ++ [(gx, _)]) pZ, E.keep (kE3 rfl rfl rfl)⟩
    ·rw [hacc, hm1, hrow, hrest, List.append_assoc]
    ·rw [List.length_append, List.length_cons, List.length_take]; omega
    ·rw [List.length_append, List.length_cons, List.length_take]; omega
    ·have e : (acc ++ (xall ((ds.drop p).take j) :: (ds.drop p).take j)).length = acc.length + 1 + j := by rw [List.length_append, List.length_cons, List.length_take, hdpl, Nat.min_eq_left oZ]; omega
     rw [e]; exact hB43
    ·have h1 := (hD.sub (E := D ++ [(gx, cel (byt (xall ((ds.drop p).take j))) 5)]) fun q hq => List.mem_append_left _ hq)
     have h2 := All2.snoc h1 (hsx.sub (E := D ++ [(gx, cel (byt (xall ((ds.drop p).take j))) 5)]) fun q hq => List.mem_append_right _ hq)
     have h3 := zCv.app h2 (hVr.sub (E := D ++ [(gx, cel (byt (xall ((ds.drop p).take j))) 5)]) fun q hq => List.mem_append_left _ hq)
     rw [List.append_assoc acc] at h3
     exact h3
 ·replace hb := Nrm.nrm hb
  have hpl2 : p = k := oZ
  refine wp_exit ?_
  refine zAl ?_; clear hK K
  refine zAl ?_
  refine zBi ?_
  refine zAb hK ?_; clear hK K
  refine wp_seq_k ?_; intro K hK
  have hend : layL wd ds = acc := by rw [hacc, List.drop_of_length_le oZ, layG_nil, List.append_nil]
  refine zAa ?_
  iterate 2 (refine zd E ?_; clear E a; intro a E)
  refine wpList_nil ?_
  refine zAb hK ?_; clear hK K
  refine wp_ret ?_
  refine ret1 E rfl rfl ?_
  exact ⟨_, rfl, vo, Co, D, vs, rfl, by rw [hend]; exact hCo, by rw [hend]; exact hD, S.tr⟩
end Go.Proofs.YtpjidiaekifmbaaGreatDoor
namespace Go.Proofs.YtpjidiaekifmbaaGreatDoor
open Go.Sl
set_option maxRecDepth 10000
def Lies (R : Rk) (xs : List (Nat × Nat)) (at_ : Nat) (l : List (List UInt8)) (i : Nat) : Prop := ∀ j (h : j < l.length), j < i → secP R xs (at_ + j) = l[j]
section
variable (P : Nat) (R : Rk) (C : zAj) (hC : RkC P R C) (xs : List (Nat × Nat)) (k : Nat) (hU : Up R xs k) (hk : k ≤ 1000) (hw : 3 ≤ xs.length ∧ xs.length ≤ 5) (hnd : (xs.map Prod.snd).Nodup) (Lv : zAj) (hLv : LvC (lvs xs) Lv)
 (t : Nat) (ad : Option Addr) (c : Nat) (vk : Value) (CL : zAj) (hCL : Buf CL 53 1 (.slice ad xs.length c) xs.length (xs.map fun y => ptr y.1))
include hC hU hk hw hnd hLv hCL
theorem zKw (x : Nat) (hx : x / xs.length < 32) (hx2 : x ≤ 1000) (hf : (dkOf R (onX xs x).2).failed = false) (v : Value) (s : List UInt8) (D : zAj) (hv : SecV D v s) (w0 : World) (H : Hp w0 [C, Lv, [(t, ptcl (.slice ad xs.length c) vk 32)], CL, D]) :
  Ret Tryz.prog 35 #[ptr t, .int .i64 x, v] w0 fun u w' => u = .int .i64 0 ∧ ∃ R' C' Lv', RkC P R' C' ∧ LvC (lvs xs) Lv' ∧ Up R' xs (k + 8) ∧ (∀ y ∈ xs, (dkOf R' y.2).failed = (dkOf R y.2).failed) ∧ (∀ y, y / xs.length < 32 → secP R' xs y = if y = x then s else secP R xs y) ∧
   Trs w0 w' [C, Lv, [(t, ptcl (.slice ad xs.length c) vk 32)], CL, D] [C', Lv', [(t, ptcl (.slice ad xs.length c) vk 32)], CL, D] := by
 have S := St.begin H
 obtain ⟨hm, hat⟩ := zEg (xs := xs) oZ x
 have hws := hU.ws
 have hwr := hU.wr
 obtain ⟨F, hF⟩ : ∃ F, F = zDg R (dkOf R (onX xs x).2) ((x / xs.length : Nat) : Int) s := ⟨_, rfl⟩
 obtain ⟨h0, hU', hfl, hse⟩ := write_sec hU (rk_shape hC).2 hnd oZ rfl hx hf hv.1 F hF
 obtain ⟨adv, cv, hvv, hcv⟩ := hv.2.2
 have hatl : (lvs xs)[x % xs.length]? = some (some (onX xs x)) := by rw [List.getElem?_map, hat]; rfl
 obtain ⟨xd, hxd⟩ : ∃ xd, xd = x / xs.length := ⟨_, rfl⟩
 rw [← hxd] at hF hx
 refine zDi 23 Tryz.func35 rfl rfl dZ ?_; intro a E
 refine wp_seq_k ?_; intro K hK
 refine zAa ?_
 refine zd E ?_; clear E a; intro a E
 refine wpList_nil ?_
 refine zAb hK ?_; clear hK K
 refine wp_seq_k ?_; intro K hK
 refine zAa ?_
 iterate 2 (refine zd E ?_; clear E a; intro a E)
 refine zAg E rfl rfl dZ rfl Tryz.func76 rfl yZ rfl (pon_ret t ad xs.length c vk 32 _ mZ hw xs rfl CL mZ hCL x oZ _ S.hp) ?_
 rintro v13 w ⟨rfl, hT⟩; clear E a; intro a E
 have S := S.all hT; rw [← hxd] at E
 iterate 7 (refine zd E ?_; clear E a; intro a E)
 refine wpList_nil ?_
 refine zAb hK ?_; clear hK K
 iterate 2 (refine wp_seq_k ?_; intro K hK)
 refine zAa ?_
 iterate 2 (refine zd E ?_; clear E a; intro a E)
 refine wpList_nil ?_
 refine zAb hK ?_; clear hK K
 refine zAt E rfl (rfl) ?_
 refine wp_skip ?_
 refine zAb hK ?_; clear hK K
 refine wp_seq_k ?_; intro K hK
 refine zAa ?_
 iterate 3 (refine zd E ?_; clear E a; intro a E)
 refine zAg E rfl rfl dZ rfl Tryz.func77 rfl yZ rfl (lwrite_in P R C hC (lvs xs) Lv hLv (x % xs.length) (onX xs x) hatl (hU.has _ hm) oZ oZ (by rw [hU.on.left]; decide) xd oZ v s D hv.rd ⟨adv, cv, by rw [hv.1]; exact hvv, by rw [hv.1]; exact hcv⟩ _ (S.hp.sel sZ)) ?_
 rintro v22 w ⟨rfl, C2, Lv2, hC2, hLv2, hT⟩; clear E a; intro a E
 have S := S.call3 sZ hT; rw [← hF] at E hC2; rw [h0] at E
 refine zd E ?_; clear E a; intro a E
 refine wpList_nil ?_
 refine zAb hK ?_; clear hK K
 refine wp_ret ?_
 refine ret1 E rfl rfl ?_
 exact ⟨_, rfl, rfl, F.1, C2, Lv2, hC2, hLv2, hU', hfl, hse, (S.only (Bs := [C2, Lv2, [(t, _)], CL, D]) sZ).tr⟩
omit hnd hLv hCL hU hC hk in
theorem pWrite_no (at_ : Int) (ha : -9223372036854775808 ≤ at_ ∧ at_ ≤ 9223372036854775807) (v : Value) (b : List UInt8) (O : zAj) (hO : Rd O 1 v b.length (byt b)) (txg : Int) (hfit : ¬ zIh xs.length 32 at_ b.length) (As : List zAj) (hTA : [(t, ptcl (.slice ad xs.length c) vk 32)] ∈ As) (w0 : World) (H : Hp w0 As) :
  Ret Tryz.prog 8 #[ptr t, .int .i64 at_, v, .int .u64 txg] w0 fun u w' => u = .int .i64 1 ∧ Trs w0 w' As As := by
 have S := St.begin H
 obtain ⟨adb, cb, rfl⟩ := hO.slice
 refine enter4 83 Tryz.func8 rfl rfl dZ ?_; intro a E
 refine wp_seq_k ?_; intro K hK
 refine zAa ?_
 refine zd E ?_; clear E a; intro a E
 refine wpList_nil ?_
 refine zAb hK ?_; clear hK K
 iterate 2 (refine wp_seq_k ?_; intro K hK)
 refine zAa ?_
 iterate 4 (refine zd E ?_; clear E a; intro a E)
 refine zAg E rfl rfl dZ rfl Tryz.func33 rfl yZ rfl (zKu t ad xs.length c vk 32 As hTA hw oZ at_ b.length ha _ S.hp) ?_
 rintro v17 w ⟨rfl, hT⟩; clear E a; intro a E
 have S := S.all hT; rw [decide_eq_false hfit] at E
 iterate 2 (refine zd E ?_; clear E a; intro a E)
 refine zCb E (t := 19) rfl (rfl) (fun hb19 => ?_)
 iterate 2 (refine zn E hb19 ?_; clear E a; intro a E)
 refine zp E (zAi E rfl rfl hb19 rfl) ?_; clear E a; intro a E
 refine zd E ?_; clear E a; intro a E
 iterate 2 (refine zn E rfl ?_; clear E a; intro a E)
 refine zp E (zAi E rfl rfl rfl rfl) ?_; clear E a; intro a E
 refine wpList_nil ?_
 refine zAb hK ?_; clear hK K
 refine zCk E rfl rfl ?_
 refine wp_seq_k ?_; intro K hK
 refine zAa ?_
 refine zd E ?_; clear E a; intro a E
 refine wpList_nil ?_
 refine zAb hK ?_; clear hK K
 refine wp_ret ?_
 refine zBc ?_; clear hK K
 refine ret1 E rfl rfl ?_
 exact ⟨_, rfl, rfl, S.tr⟩
theorem zIs (hk8 : k ≤ 500) (hnf : ∀ y ∈ xs, (dkOf R y.2).failed = false) (at_ : Nat) (v : Value) (b : List UInt8) (O : zAj) (hO : Rd O 1 v b.length (byt b)) (txg : Int) (ht : 1 ≤ txg ∧ txg ≤ 281474976710656) (hfit : zIh xs.length 32 at_ b.length) (hbl : 1 ≤ b.length ∧ b.length ≤ 1024)
  (hN : at_ + (layP xs.length b).length ≤ xs.length * 32 ∧ (layP xs.length b).length ≤ 12) (w0 : World) (H : Hp w0 [C, Lv, [(t, ptcl (.slice ad xs.length c) vk 32)], CL, O]) :
  Ret Tryz.prog 8 #[ptr t, .int .i64 at_, v, .int .u64 txg] w0 fun u w' => u = .int .i64 0 ∧ ∃ R' C' Lv', RkC P R' C' ∧ LvC (lvs xs) Lv' ∧ Up R' xs (k + 96) ∧ (∀ y ∈ xs, (dkOf R' y.2).failed = false) ∧ Lies R' xs at_ (layP xs.length b) (layP xs.length b).length ∧
   Trs w0 w' [C, Lv, [(t, ptcl (.slice ad xs.length c) vk 32)], CL, O] [C', Lv', [(t, ptcl (.slice ad xs.length c) vk 32)], CL, O] := by
 have S := St.begin H
 obtain ⟨adb, cb, rfl⟩ := hO.slice
 obtain ⟨N, hNe⟩ : ∃ N, N = (layP xs.length b).length := ⟨_, rfl⟩
 rw [← hNe] at hN
 have hat40 : xs.length * 32 ≤ 160 := by omega
 have hdv : ∀ i, i < N → (at_ + i) / xs.length < 32 := fun i hi => (Nat.div_lt_iff_lt_mul oZ).2 (by rw [Nat.mul_comm]; omega)
 obtain ⟨gl, rfl⟩ := hCL.addr oZ
 refine enter4 83 Tryz.func8 rfl rfl dZ ?_; intro a E
 refine wp_seq_k ?_; intro K hK
 refine zAa ?_
 refine zd E ?_; clear E a; intro a E
 refine wpList_nil ?_
 refine zAb hK ?_; clear hK K
 iterate 2 (refine wp_seq_k ?_; intro K hK)
 refine zAa ?_
 iterate 4 (refine zd E ?_; clear E a; intro a E)
 refine zAg E rfl rfl dZ rfl Tryz.func33 rfl yZ rfl (zKu t _ xs.length c vk 32 _ mZ hw oZ at_ b.length oZ _ S.hp) ?_
 rintro v17 w ⟨rfl, hT⟩; clear E a; intro a E
 have S := S.all hT; rw [decide_eq_true hfit] at E
 iterate 2 (refine zd E ?_; clear E a; intro a E)
 refine zBg E (t := 19) rfl (rfl) (fun hb19 => ?_)
 iterate 2 (refine zyd E hb19 ?_; clear E a; intro a E)
 refine zp E (zAk E rfl rfl hb19 rfl) ?_; clear E a; intro a E
 refine zd E ?_; clear E a; intro a E
 refine zBg E (t := 23) rfl ((by simp; omega)) (fun hb23 => ?_)
 iterate 2 (refine zyd E hb23 ?_; clear E a; intro a E)
 refine zp E (zAk E rfl rfl hb23 rfl) ?_; clear E a; intro a E
 refine wpList_nil ?_
 refine zAb hK ?_; clear hK K
 refine zAt E rfl ((by simp; omega)) ?_
 refine wp_skip ?_
 refine zAb hK ?_; clear hK K
 refine wp_seq_k ?_; intro K hK
 refine zAa ?_
 refine zAf rfl (wp_makeMap E S rfl rfl dZ ?_); clear E S a; intro a w b27 E S
 refine zd E ?_; clear E a; intro a E
 refine wpList_nil ?_
 refine zAb hK ?_; clear hK K
 iterate 2 (refine wp_seq_k ?_; intro K hK)
 refine zAa ?_
 iterate 2 (refine zd E ?_; clear E a; intro a E)
 refine zAg E rfl rfl dZ rfl Tryz.func34 rfl yZ rfl (zKv t _ xs.length c vk 32 _ mZ hw _ b O hO mZ hbl _ S.hp) ?_
 rintro v30 w ⟨vo, Co, D, vs, rfl, hCo, hD, hT⟩; clear E a; intro a E
 have S := S.all hT; obtain ⟨ado, co, rfl⟩ := hCo.slice; rw [← hNe] at hCo E
 have hvl : vs.length = N := by rw [hD.1, hNe]
 iterate 2 (refine zd E ?_; clear E a; intro a E)
 refine wpList_nil ?_
 refine zAb hK ?_; clear hK K
 refine wp_block ?_
 refine wp_loop_ghost (fun (m : Nat) (a : Act) (w' : World) => ∃ (i : Nat) (R' : Rk) (C' Lv' : zAj), m = N - i ∧ i ≤ N ∧ RkC P R' C' ∧ LvC (lvs xs) Lv' ∧ Up R' xs (k + 8 * i) ∧ (∀ y ∈ xs, (dkOf R' y.2).failed = false) ∧ Lies R' xs at_ (layP xs.length b) i ∧ St w0 [C, Lv, [(t, ptcl (.slice (some ⟨gl, 0, none⟩) xs.length c) vk 32)], CL, O] w' [C', Lv', [(t, ptcl (.slice (some ⟨gl, 0, none⟩) xs.length c) vk 32)], CL, Co, D, [(b27, .map #[] 0)], O] ∧
  Fr a 83 [(0, ptr t), (1, .int .i64 at_), (3, .int .u64 txg), (9, .map (some b27)), (30, .slice ado N co), (31, .int .i64 N), (32, .int .i64 i)]) (N - 0) ?_ ?_
 ·exact ⟨0, R, C, Lv, rfl, by omega, hC, hLv, hU, hnf, fun j h q => absurd q oZ, S.only sZ, E.keep (kE7 rfl rfl rfl rfl rfl rfl rfl)⟩
 clear E; clear a; (try clear S); rintro m a w ⟨i, R', C', Lv', rfl, hi, hC', hLv', hU', hnf', hLi, S, E⟩
 refine wp_seq_k ?_; intro K hK
 refine zAa ?_
 refine zd E ?_; clear E a; intro a E
 refine wpList_nil ?_
 refine zAb hK ?_; clear hK K
 refine wp_seq_k ?_; intro K hK
 refine zAs E rfl (fun hb => ?_) (fun hb => ?_)
 ·replace hb := Nrm.nrm hb
  refine wp_skip ?_
  refine zAb hK ?_; clear hK K
  refine wp_seq_k ?_; intro K hK
  refine wp_block ?_
  refine wp_seq_k ?_; intro K hK
  have hil : i < N := by omega
  obtain ⟨vi, hvi, hsv⟩ := hD.at (i := i) oZ
  obtain ⟨go, rfl⟩ := hCo.addr oZ
  obtain ⟨gs, os, cs, rfl, hcs⟩ := hsv.addr
  have hdi := hdv i hil
  refine zAa ?_
  refine zd E ?_; clear E a; intro a E
  refine zp E (by first | exact zAp E rfl rfl rfl rfl rfl rfl oZ | exact zAz E rfl rfl rfl rfl rfl rfl oZ | exact zAm E rfl rfl rfl rfl rfl rfl oZ) ?_; clear E a; intro a E
  refine zp E (zAo E rfl rfl rfl (hCo.rd.cells (S.stab.at mZ) rfl i _ hvi)) ?_; clear E a; intro a E
  iterate 2 (refine zd E ?_; clear E a; intro a E)
  refine wpList_nil ?_
  refine zAb hK ?_; clear hK K
  refine wp_seq_k ?_; intro K hK
  refine zAa ?_
  iterate 3 (refine zd E ?_; clear E a; intro a E)
  refine zp E (zAy E rfl rfl rfl (w_in oZ)) ?_; clear E a; intro a E
  refine zd E ?_; clear E a; intro a E
  refine zAg E rfl rfl dZ rfl Tryz.func35 rfl yZ rfl (zKw P R' C' hC' xs (k + 8 * i) hU' oZ hw hnd Lv' hLv' t _ c vk CL hCL (at_ + i) hdi oZ (hnf' _ (zEg oZ _).1) _ _ D hsv _ (S.hp.sel sZ)) ?_
  rintro v42 w ⟨rfl, R2, C2, Lv2, hC2, hLv2, hU2, hf2, hs2, hT⟩; clear E a; intro a E
  have S := S.call sZ hT; simp only [List.cons_append, List.nil_append] at S
  refine wpList_nil ?_
  refine zAb hK ?_; clear hK K
  refine wp_block ?_
  refine wp_seq_k ?_; intro K hK
  refine zAa ?_
  iterate 2 (refine zd E ?_; clear E a; intro a E)
  refine wpList_nil ?_
  refine zAb hK ?_; clear hK K
  refine zAt E rfl (rfl) ?_
  refine wp_seq_k ?_; intro K hK
  refine zAa ?_
  iterate 2 (refine zd E ?_; clear E a; intro a E)
  refine wpList_nil ?_
  refine zAb hK ?_; clear hK K
  refine zCk E rfl (rfl) ?_
  refine wp_skip ?_
  iterate 2 (refine zAq ?_)
  refine zAb hK ?_; clear hK K
  refine zAa ?_
  refine zp E (zAy E rfl rfl rfl (w_in oZ)) ?_; clear E a; intro a E
  refine zd E ?_; clear E a; intro a E
  refine wpList_nil ?_
  refine zAn ?_
  refine ⟨_, by omega, i + 1, R2, C2, Lv2, rfl, by omega, hC2, hLv2, by rw [show k + 8 * (i + 1) = k + 8 * i + 8 by omega]; exact hU2, fun y hy => by rw [hf2 y hy]; exact hnf' y hy, fun j hj hji => ?_, S.only sZ, E.keep (kE7 rfl rfl rfl rfl rfl rfl rfl)⟩
  rw [hs2 _ (hdv j oZ)]
  by_cases q : j = i
  ·subst q; rw [if_pos rfl]
  ·rw [if_neg oZ]; exact hLi j hj oZ
 ·replace hb := Nrm.nrm hb
  refine wp_exit ?_
  refine zAl ?_; clear hK K
  refine zAl ?_
  refine zBi ?_
  refine zAb hK ?_; clear hK K
  iterate 2 (refine wp_seq_k ?_; intro K hK)
  obtain rfl : i = N := by omega
  refine zAa ?_
  refine zd E ?_; clear E a; intro a E
  refine zAg E rfl rfl dZ rfl Tryz.func36 rfl yZ rfl (zCt t _ xs.length c vk 32 _ mZ _ S.hp) ?_
  rintro v56 w ⟨rfl, hT⟩; clear E a; intro a E
  have S := S.all hT
  refine zd E ?_; clear E a; intro a E
  refine wpList_nil ?_
  refine zAb hK ?_; clear hK K
  refine wp_block ?_
  refine wp_loop_ghost (fun (m : Nat) (a : Act) (w' : World) => ∃ (j : Nat), m = xs.length - j ∧ j ≤ xs.length ∧ St w0 [C, Lv, [(t, ptcl (.slice (some ⟨gl, 0, none⟩) xs.length c) vk 32)], CL, O] w' [C', Lv', [(t, ptcl (.slice (some ⟨gl, 0, none⟩) xs.length c) vk 32)], CL, Co, D, [(b27, .map #[] 0)], O] ∧ Fr a 83 [(0, ptr t), (3, .int .u64 txg), (9, .map (some b27)), (56, .int .i64 xs.length), (57, .int .i64 j)]) (xs.length - 0) ?_ ?_
  ·exact ⟨0, rfl, by omega, S, E.keep (kE5 rfl rfl rfl rfl rfl)⟩
  clear E; clear a; (try clear S); rintro m a w ⟨j, rfl, hj, S, E⟩
  refine wp_seq_k ?_; intro K hK
  refine zAa ?_
  refine zd E ?_; clear E a; intro a E
  refine wpList_nil ?_
  refine zAb hK ?_; clear hK K
  refine wp_seq_k ?_; intro K hK
  refine zAs E rfl (fun hb => ?_) (fun hb => ?_)
  ·replace hb := Nrm.nrm hb
   refine wp_skip ?_
   refine zAb hK ?_; clear hK K
   refine wp_seq_k ?_; intro K hK
   refine wp_block ?_
   refine wp_seq_k ?_; intro K hK
   refine zAa ?_
   iterate 2 (refine zd E ?_; clear E a; intro a E)
   refine wpList_nil ?_
   refine zAb hK ?_; clear hK K
   refine wp_seq_k ?_; intro K hK
   have hjl : j < xs.length := by omega
   have hcell : (xs.map fun y => ptr y.1)[j]? = some (ptr xs[j].1) := by rw [List.getElem?_map, List.getElem?_eq_getElem hjl]; rfl
   refine zAa ?_
   iterate 2 (refine zd E ?_; clear E a; intro a E)
   refine zp E (zFo (v := .bool false) E rfl rfl rfl rfl rfl rfl rfl (S.get pZ) rfl) ?_; clear E a; intro a E
   refine zd E ?_; clear E a; intro a E
   refine zBg E (t := 63) rfl (rfl) (fun hb63 => ?_)
   iterate 2 (refine zyd E hb63 ?_; clear E a; intro a E)
   refine zy E hb63 (by first | exact zAc (q := 0) E rfl rfl rfl | exact zAd (q := 0) E rfl rfl rfl) ?_; clear E a; intro a E
   iterate 2 (refine zyd E hb63 ?_; clear E a; intro a E)
   refine zy E hb63 (zAp (i := j) E rfl rfl rfl rfl rfl rfl oZ) ?_; clear E a; intro a E
   refine zy E hb63 (zAo E rfl rfl rfl (hCL.rd.cells (S.stab.at mZ) rfl j _ hcell)) ?_; clear E a; intro a E
   refine zyd E hb63 ?_; clear E a; intro a E
   refine zp E (zAk E rfl rfl hb63 rfl) ?_; clear E a; intro a E
   refine wpList_nil ?_
   refine zAb hK ?_; clear hK K
   refine zAt E rfl (rfl) ?_
   refine wp_skip ?_
   refine zAq ?_
   refine zAb hK ?_; clear hK K
   refine zAa ?_
   refine zp E (zAy E rfl rfl rfl (w_in oZ)) ?_; clear E a; intro a E
   refine zd E ?_; clear E a; intro a E
   refine wpList_nil ?_
   refine zAn ?_
   exact ⟨_, by omega, j + 1, rfl, by omega, S, E.keep (kE5 rfl rfl rfl rfl rfl)⟩
  ·replace hb := Nrm.nrm hb
   refine wp_exit ?_
   refine zAl ?_; clear hK K
   refine zAl ?_
   refine zBi ?_
   refine zAb hK ?_; clear hK K
   iterate 2 (refine wp_seq_k ?_; intro K hK)
   refine zAa ?_
   refine zd E ?_; clear E a; intro a E
   refine zp E (zCz E rfl rfl rfl (S.get pZ)) ?_; clear E a; intro a E
   refine zd E ?_; clear E a; intro a E
   refine wpList_nil ?_
   refine zAb hK ?_; clear hK K
   refine zAt E rfl (rfl) ?_
   refine wp_skip ?_
   refine zAb hK ?_; clear hK K
   refine wp_seq_k ?_; intro K hK
   refine zAa ?_
   refine zd E ?_; clear E a; intro a E
   refine wpList_nil ?_
   refine zAb hK ?_; clear hK K
   refine wp_ret ?_
   refine ret1 E rfl rfl ?_
   refine ⟨_, rfl, rfl, R', C', Lv', hC', hLv', ?_, hnf', by rw [hNe] at hLi; exact hLi, (S.only (Bs := [C', Lv', [(t, _)], CL, O]) sZ).tr⟩
   exact ⟨hU'.on, hU'.nd, hU'.has, hU'.pl, hU'.nw, by have := hU'.ws; omega, by have := hU'.wr; omega⟩
end
end Go.Proofs.YtpjidiaekifmbaaGreatDoor
namespace Go.Sl
def lostL : Option Nat → List Me
 | none => []
 | some j => [⟨(j : Int), .bool true, 0⟩]
def zHt (q : Option Nat) : Obj := .map (mes .i64 (lostL q)) (lostL q).length
end Go.Sl
namespace Go.Proofs.YtpjidiaekifmbaaGreatDoor
open Go.Sl
set_option maxRecDepth 10000
def zFp (R : Rk) (xs : List (Nat × Nat)) (x : Nat) : Bool := (dkOf R (onX xs x).2).failed
def lsTo (R : Rk) (xs : List (Nat × Nat)) (at_ : Nat) : Nat → Option Nat
 | 0 => none
 | i + 1 => if zFp R xs (at_ + i) then some ((at_ + i) % xs.length) else lsTo R xs at_ i
def rdTo (R : Rk) (xs : List (Nat × Nat)) (at_ i : Nat) : List (List UInt8) := (List.range i).map fun j => if zFp R xs (at_ + j) then z128 else secP R xs (at_ + j)
theorem zKx (R : Rk) (xs : List (Nat × Nat)) (at_ i : Nat) : rdTo R xs at_ (i + 1) = rdTo R xs at_ i ++ [if zFp R xs (at_ + i) then z128 else secP R xs (at_ + i)] := by
 unfold rdTo; rw [List.range_succ, List.map_append]; rfl
theorem zDp (R : Rk) (xs : List (Nat × Nat)) (at_ i : Nat) : (rdTo R xs at_ i).length = i := by simp [rdTo]
theorem lsTo_is {R : Rk} {xs : List (Nat × Nat)} {at_ : Nat} : ∀ {i j : Nat}, lsTo R xs at_ i = some j → ∃ i', i' < i ∧ zFp R xs (at_ + i') = true ∧ j = (at_ + i') % xs.length
 | 0, j, h => by simp [lsTo] at h
 | i + 1, j, h => by
  rw [lsTo] at h
  split at h
  ·rename_i q; cases h; exact ⟨i, by omega, q, rfl⟩
  ·obtain ⟨i', h1, h2⟩ := lsTo_is h
   exact ⟨i', by omega, h2⟩
theorem zIk {R : Rk} {xs : List (Nat × Nat)} {at_ : Nat} : ∀ {i : Nat}, lsTo R xs at_ i = none → ∀ i', i' < i → zFp R xs (at_ + i') = false
 | 0, _, i', h => absurd h oZ
 | i + 1, h, i', hi => by
  rw [lsTo] at h
  split at h
  ·cases h
  ·rename_i q
   by_cases e : i' = i
   ·subst e; simpa using q
   ·exact zIk h i' oZ
def zIt (R : Rk) (xs : List (Nat × Nat)) : Prop := ∀ x y, zFp R xs x = true → zFp R xs y = true → x % xs.length = y % xs.length
abbrev zDv (t : Nat) (at_ : Nat) (vS : Value) (mb : Nat) : Obj := cel [ptr t, .int .i64 at_, vS, .map (some mb)] 99
section
variable (P : Nat) (R : Rk) (C : zAj) (hC : RkC P R C) (xs : List (Nat × Nat)) (k : Nat) (hU : Up R xs k) (hw : 3 ≤ xs.length ∧ xs.length ≤ 5) (Lv : zAj) (hLv : LvC (lvs xs) Lv)
 (t : Nat) (ad : Option Addr) (c : Nat) (vk : Value) (CL : zAj) (hCL : Buf CL 53 1 (.slice ad xs.length c) xs.length (xs.map fun y => ptr y.1)) (h1 : zIt R xs)
include hC hU hw hLv hCL h1
theorem pread_ret (at_ bl N : Nat) (hbl : zFf xs.length bl = N) (hN : at_ + N ≤ xs.length * 32 ∧ N ≤ 12) (w0 : World) (H : Hp w0 [C, Lv, [(t, ptcl (.slice ad xs.length c) vk 32)], CL]) :
  Ret Tryz.prog 78 #[ptr t, .int .i64 at_, .int .i64 bl] w0 fun u w' => ∃ g vS CS D vs mb Lv', u = .tuple #[ptr g, .int .i64 0] ∧ Buf CS 22 1 vS N vs ∧ zCv D vs (rdTo R xs at_ N) ∧ LvC (lvs xs) Lv' ∧
   Trs w0 w' [C, Lv, [(t, ptcl (.slice ad xs.length c) vk 32)], CL] [[(g, zDv t at_ vS mb)], [(mb, zHt (lsTo R xs at_ N))], CS, D, C, Lv', [(t, ptcl (.slice ad xs.length c) vk 32)], CL] := by
 have S := St.begin H
 have hat40 : xs.length * 32 ≤ 160 := by omega
 have hdv : ∀ i, i < N → (at_ + i) / xs.length < 32 := fun i hi => (Nat.div_lt_iff_lt_mul oZ).2 (by rw [Nat.mul_comm]; omega)
 have hz : List.replicate 128 (.int .u8 0) = byt z128 := (zFd 128).symm
 refine zDi 72 Tryz.func78 rfl rfl dZ ?_; intro a E
 refine wp_seq_k ?_; intro K hK
 refine zAa ?_
 iterate 2 (refine zd E ?_; clear E a; intro a E)
 refine wpList_nil ?_
 refine zAb hK ?_; clear hK K
 refine wp_seq_k ?_; intro K hK
 refine zAa ?_
 iterate 2 (refine zd E ?_; clear E a; intro a E)
 refine zAf rfl (wp_makeMap E S rfl rfl dZ ?_); clear E S a; intro a w b19 E S
 refine zp E (zBt (cells := [_, _, _, _]) E rfl rfl rfl) ?_; clear E a; intro a E
 refine zAf rfl (zBz E S rfl rfl dZ rfl rfl ?_); clear E S a; intro a w b21 E S
 refine zd E ?_; clear E a; intro a E
 refine wpList_nil ?_
 refine zAb hK ?_; clear hK K
 iterate 2 (refine wp_seq_k ?_; intro K hK)
 refine zAa ?_
 iterate 2 (refine zd E ?_; clear E a; intro a E)
 refine zAg E rfl rfl dZ rfl Tryz.func10 rfl yZ rfl (zGu t ad xs.length c vk 32 _ mZ hw bl _ S.hp) ?_
 rintro v24 w ⟨rfl, hT⟩; clear E a; intro a E
 have S := S.all hT; rw [hbl] at E
 refine zd E ?_; clear E a; intro a E
 refine wpList_nil ?_
 refine zAb hK ?_; clear hK K
 refine wp_block ?_
 refine wp_loop_ghost (fun (m : Nat) (a : Act) (w' : World) => ∃ (i : Nat) (vS : Value) (CS D : zAj) (vs : List Value) (Lv' : zAj), m = N - i ∧ i ≤ N ∧ Buf CS 22 1 vS i vs ∧ zCv D vs (rdTo R xs at_ i) ∧ LvC (lvs xs) Lv' ∧ St w0 [C, Lv, [(t, ptcl (.slice ad xs.length c) vk 32)], CL] w' [[(b21, zDv t at_ vS b19)], [(b19, zHt (lsTo R xs at_ i))], CS, D, C, Lv', [(t, ptcl (.slice ad xs.length c) vk 32)], CL] ∧
  Fr a 72 [(0, ptr t), (1, .int .i64 at_), (8, ptr b21), (24, .int .i64 N), (25, .int .i64 i)]) (N - 0) ?_ ?_
 ·exact ⟨0, _, [], [], [], Lv, rfl, by omega, Buf.nil _ _, All2.nil, hLv, S.addNil.addNil.only sZ, E.keep (kE5 rfl rfl rfl rfl rfl)⟩
 clear E; clear a; (try clear S); rintro m a w ⟨i, vS, CS, D, vs, Lv', rfl, hi, hCS, hD, hLv', S, E⟩
 refine wp_seq_k ?_; intro K hK
 refine zAa ?_
 refine zd E ?_; clear E a; intro a E
 refine wpList_nil ?_
 refine zAb hK ?_; clear hK K
 refine wp_seq_k ?_; intro K hK
 refine zAs E rfl (fun hb => ?_) (fun hb => ?_)
 ·replace hb := Nrm.nrm hb
  refine wp_skip ?_
  refine zAb hK ?_; clear hK K
  refine wp_seq_k ?_; intro K hK
  refine wp_block ?_
  refine wp_seq_k ?_; intro K hK
  have hil : i < N := by omega
  obtain ⟨hm, hat⟩ := zEg (xs := xs) oZ (at_ + i)
  have hdi := hdv i hil
  have hatl : (lvs xs)[(at_ + i) % xs.length]? = some (some (onX xs (at_ + i))) := by rw [List.getElem?_map, hat]; rfl
  obtain ⟨xd, hxd⟩ : ∃ xd, xd = (at_ + i) / xs.length := ⟨_, rfl⟩
  rw [← hxd] at hdi
  have hsec : secP R xs (at_ + i) = secB (dkOf R (onX xs (at_ + i)).2).now (274 + xd) := by unfold secP; rw [hxd]
  have hnow := hU.nw _ hm
  have hrd := lfRead_on hU.on.off (y := dkOf R (onX xs (at_ + i)).2) (by rw [hU.nw _ hm, hU.pl _ hm]) (at_ := (xd : Int)) (n := 1) (by unfold zIb; rw [hU.size _ hm]; omega)
  rw [show ((274 + (xd : Int)).toNat * 128) = 128 * (274 + xd) by omega, show List.take (1 * 128) (List.drop (128 * (274 + xd)) (dkOf R (onX xs (at_ + i)).2).now) = secP R xs (at_ + i) by rw [hsec]; rfl, show ((1 : Nat) : Int) = 1 from rfl] at hrd
  have hsl : (secP R xs (at_ + i)).length = 128 := by rw [hsec]; exact zCf (by rw [hnow]; omega)
  refine zAa ?_
  iterate 2 (refine zd E ?_; clear E a; intro a E)
  refine wpList_nil ?_
  refine zAb hK ?_; clear hK K
  refine wp_seq_k ?_; intro K hK
  refine zAa ?_
  iterate 3 (refine zd E ?_; clear E a; intro a E)
  refine zp E (zAy E rfl rfl rfl (w_in oZ)) ?_; clear E a; intro a E
  refine zAg E rfl rfl dZ rfl Tryz.func76 rfl yZ rfl (pon_ret t ad xs.length c vk 32 _ mZ hw xs rfl CL mZ hCL (at_ + i) oZ _ S.hp) ?_
  rintro v33 w ⟨rfl, hT⟩; clear E a; intro a E
  have S := S.all hT; rw [← hxd] at E
  iterate 7 (refine zd E ?_; clear E a; intro a E)
  refine wpList_nil ?_
  refine zAb hK ?_; clear hK K
  refine wp_seq_k ?_; intro K hK
  refine zAa ?_
  refine zAf rfl (zCn (by' := 1) E S rfl rfl dZ rfl rfl rfl rfl rfl rfl rfl rfl rfl rfl rfl (k := 128) (mkb oZ) (by simp only [maxLen]; omega) ?_); clear E S a; intro a w g37 E S
  rw [hz] at S
  iterate 2 (refine zd E ?_; clear E a; intro a E)
  refine wpList_nil ?_
  refine zAb hK ?_; clear hK K
  iterate 2 (refine wp_seq_k ?_; intro K hK)
  refine zAa ?_
  iterate 2 (refine zd E ?_; clear E a; intro a E)
  refine wpList_nil ?_
  refine zAb hK ?_; clear hK K
  refine zCk E rfl (rfl) ?_
  refine wp_seq_k ?_; intro K hK
  refine zAa ?_
  rcases hfd : zFp R xs (at_ + i) with _ | _
  ·skip
   rw [show (dkOf R (onX xs (at_ + i)).2).failed = false from hfd, if_neg (by simp)] at hrd
   iterate 2 (refine zd E ?_; clear E a; intro a E)
   refine zAg E rfl rfl dZ rfl Tryz.func15 rfl yZ rfl (lread_in P R C hC (lvs xs) Lv' hLv' ((at_ + i) % xs.length) (onX xs (at_ + i)) hatl (hU.has _ hm) xd 1 oZ _ (S.hp.sel sZ)) ?_
   rintro v43 w ⟨vb, Cb, Lv2, rfl, hCb, hLv2, hT⟩; clear E a; intro a E
   have S := S.call3 sZ hT; rw [hrd] at E hCb; replace hCb : Buf Cb 5 1 vb 128 (byt (secP R xs (at_ + i))) := (by rw [← hsl]; exact hCb); obtain ⟨adc, cpc, rfl⟩ := hCb.slice
   iterate 5 (refine zd E ?_; clear E a; intro a E)
   refine wpList_nil ?_
   refine zAb hK ?_; clear hK K
   refine wp_seq_k ?_; intro K hK
   refine zAa ?_
   iterate 2 (refine zd E ?_; clear E a; intro a E)
   refine wpList_nil ?_
   refine zAb hK ?_; clear hK K
   refine wp_seq_k ?_; intro K hK
   refine zAa ?_
   iterate 2 (refine zd E ?_; clear E a; intro a E)
   refine wpList_nil ?_
   refine zAb hK ?_; clear hK K
   refine zCk E rfl (rfl) ?_
   refine zAa ?_
   iterate 2 (refine zd E ?_; clear E a; intro a E)
   refine wpList_nil ?_
   refine zAb hK ?_; clear hK K
   iterate 2 (refine wp_seq_k ?_; intro K hK)
   refine zAa ?_
   iterate 2 (refine zd E ?_; clear E a; intro a E)
   refine wpList_nil ?_
   refine zAb hK ?_; clear hK K
   refine zAt E rfl (rfl) ?_
   refine wp_skip ?_
   refine zAb hK ?_; clear hK K
   iterate 2 (refine wp_seq_k ?_; intro K hK)
   refine zAa ?_
   iterate 2 (refine zd E ?_; clear E a; intro a E)
   refine wpList_nil ?_
   refine zAb hK ?_; clear hK K
   refine zAt E rfl (rfl) ?_
   refine wp_skip ?_
   refine zAb hK ?_; clear hK K
   obtain ⟨adS, cS, rfl⟩ := hCS.slice
   refine zAa ?_
   iterate 3 (refine zd E ?_; clear E a; intro a E)
   refine zp E (by first | exact zAc (q := 2) E rfl rfl rfl | exact zAd (q := 2) E rfl rfl rfl) ?_; clear E a; intro a E
   iterate 2 (refine zd E ?_; clear E a; intro a E)
   refine zAf rfl (zBm (cells := [_]) E S rfl rfl dZ rfl rfl rfl rfl rfl dZ rfl ?_); clear E S a; intro a w b66 E S
   refine zAf rfl (zBl (by' := 24) E S rfl rfl dZ rfl rfl hCS pZ ((zBn (g := b66) (T := 22) (xs := [.slice adc 128 cpc]) (s := 1) (m := 1) rfl (by simp [Value.oneCell']) oZ 1).src (S.stab.at mZ) rfl) rfl rfl rfl rfl rfl rfl (by simp only [maxLen]; omega) oZ ?_); clear E S a; intro a w v67 C67 E S hB67
   obtain ⟨ad67, c67, rfl⟩ := hB67.slice
   refine zd E ?_; clear E a; intro a E
   refine zp E (by first | exact zAc (q := 2) E rfl rfl rfl | exact zAd (q := 2) E rfl rfl rfl) ?_; clear E a; intro a E
   refine zAf rfl (zBa E S rfl rfl rfl rfl rfl rfl pZ (by first | exact Nat.le_of_ble_eq_true rfl | (simp; done) | (simp; omega)) ?_); clear E S a; intro a w E S; try dsimp only [List.set] at S
   refine wpList_nil ?_
   refine zAq ?_
   refine zAb hK ?_; clear hK K
   refine zAa ?_
   refine zp E (zAy E rfl rfl rfl (w_in oZ)) ?_; clear E a; intro a E
   refine zd E ?_; clear E a; intro a E
   refine wpList_nil ?_
   refine zAn ?_
   have hls2 : lsTo R xs at_ (i + 1) = lsTo R xs at_ i := by rw [lsTo, hfd]; rfl
   have hsv : SecV Cb (.slice adc 128 cpc) (secP R xs (at_ + i)) := ⟨hsl, hCb.rd, _, _, rfl, hCb.cap_le⟩
   refine ⟨_, by omega, i + 1, _, C67, D ++ Cb, vs ++ [.slice adc 128 cpc], Lv2, rfl, by omega, hB67, ?_, hLv2, by rw [hls2]; exact (S.gather (A := D) (B := Cb) pZ pZ).only sZ, E.keep (kE5 rfl rfl rfl rfl rfl)⟩
   rw [zKx, hfd]
   exact All2.snoc (hD.sub fun q hq => List.mem_append_left _ hq) (hsv.sub fun q hq => List.mem_append_right _ hq)
  ·skip
   rw [show (dkOf R (onX xs (at_ + i)).2).failed = true from hfd, if_pos rfl] at hrd
   iterate 2 (refine zd E ?_; clear E a; intro a E)
   refine zAg E rfl rfl dZ rfl Tryz.func15 rfl yZ rfl (lread_in P R C hC (lvs xs) Lv' hLv' ((at_ + i) % xs.length) (onX xs (at_ + i)) hatl (hU.has _ hm) xd 1 oZ _ (S.hp.sel sZ)) ?_
   rintro v43 w ⟨vb, Cb, Lv2, rfl, hCb, hLv2, hT⟩; clear E a; intro a E
   have S := S.call3 sZ hT; rw [hrd] at E hCb; skip
   iterate 5 (refine zd E ?_; clear E a; intro a E)
   refine wpList_nil ?_
   refine zAb hK ?_; clear hK K
   refine wp_seq_k ?_; intro K hK
   refine zAa ?_
   iterate 2 (refine zd E ?_; clear E a; intro a E)
   refine wpList_nil ?_
   refine zAb hK ?_; clear hK K
   refine wp_seq_k ?_; intro K hK
   refine zAa ?_
   iterate 2 (refine zd E ?_; clear E a; intro a E)
   refine wpList_nil ?_
   refine zAb hK ?_; clear hK K
   refine zAt E rfl (rfl) ?_
   refine wp_skip ?_
   refine zAb hK ?_; clear hK K
   iterate 2 (refine wp_seq_k ?_; intro K hK)
   refine zAa ?_
   iterate 2 (refine zd E ?_; clear E a; intro a E)
   refine wpList_nil ?_
   refine zAb hK ?_; clear hK K
   refine zAt E rfl (rfl) ?_
   refine wp_skip ?_
   refine zAb hK ?_; clear hK K
   iterate 2 (refine wp_seq_k ?_; intro K hK)
   refine zAa ?_
   iterate 2 (refine zd E ?_; clear E a; intro a E)
   refine wpList_nil ?_
   refine zAb hK ?_; clear hK K
   refine zCk E rfl (rfl) ?_
   refine zAa ?_
   rcases hls : lsTo R xs at_ i with _ | j0
   ·skip
    rw [hls] at S
    iterate 2 (refine zd E ?_; clear E a; intro a E)
    refine zp E (by first | exact zAc (q := 3) E rfl rfl rfl | exact zAd (q := 3) E rfl rfl rfl) ?_; clear E a; intro a E
    iterate 2 (refine zd E ?_; clear E a; intro a E)
    refine zAf rfl (wp_mapSet E S (.inl rfl) rfl rfl rfl rfl rfl rfl pZ rfl ?_); clear E S a; intro a w E S
    refine wpList_nil ?_
    refine zAb hK ?_; clear hK K
    obtain ⟨adS, cS, rfl⟩ := hCS.slice
    refine zAa ?_
    iterate 3 (refine zd E ?_; clear E a; intro a E)
    refine zp E (by first | exact zAc (q := 2) E rfl rfl rfl | exact zAd (q := 2) E rfl rfl rfl) ?_; clear E a; intro a E
    iterate 2 (refine zd E ?_; clear E a; intro a E)
    refine zAf rfl (zBm (cells := [_]) E S rfl rfl dZ rfl rfl rfl rfl rfl dZ rfl ?_); clear E S a; intro a w b66 E S
    refine zAf rfl (zBl (by' := 24) E S rfl rfl dZ rfl rfl hCS pZ ((zBn (g := b66) (T := 22) (xs := [.slice (some ⟨g37, 0, none⟩) 128 128]) (s := 1) (m := 1) rfl (by simp [Value.oneCell']) oZ 1).src (S.stab.at mZ) rfl) rfl rfl rfl rfl rfl rfl (by simp only [maxLen]; omega) oZ ?_); clear E S a; intro a w v67 C67 E S hB67
    obtain ⟨ad67, c67, rfl⟩ := hB67.slice
    refine zd E ?_; clear E a; intro a E
    refine zp E (by first | exact zAc (q := 2) E rfl rfl rfl | exact zAd (q := 2) E rfl rfl rfl) ?_; clear E a; intro a E
    refine zAf rfl (zBa E S rfl rfl rfl rfl rfl rfl pZ (by first | exact Nat.le_of_ble_eq_true rfl | (simp; done) | (simp; omega)) ?_); clear E S a; intro a w E S; try dsimp only [List.set] at S
    refine wpList_nil ?_
    refine zAq ?_
    refine zAb hK ?_; clear hK K
    refine zAa ?_
    refine zp E (zAy E rfl rfl rfl (w_in oZ)) ?_; clear E a; intro a E
    refine zd E ?_; clear E a; intro a E
    refine wpList_nil ?_
    refine zAn ?_
    have hls2 : lsTo R xs at_ (i + 1) = some ((at_ + i) % xs.length) := by rw [lsTo, hfd]; rfl
    have hsv : SecV [(g37, cel (byt z128) 5)] (.slice (some ⟨g37, 0, none⟩) 128 128) z128 := ⟨zEb, zBn (T := 5) (by rw [zAv, zEb]) (zCq _) oZ _, _, _, rfl, Nat.le_refl _⟩
    refine ⟨_, by omega, i + 1, _, C67, D ++ [(g37, cel (byt z128) 5)], vs ++ [.slice (some ⟨g37, 0, none⟩) 128 128], Lv2, rfl, by omega, hB67, ?_, hLv2, by rw [hls2]; exact (S.gather (A := D) (B := [(g37, _)]) pZ pZ).only sZ, E.keep (kE5 rfl rfl rfl rfl rfl)⟩
    rw [zKx, hfd]
    exact All2.snoc (hD.sub fun q hq => List.mem_append_left _ hq) (hsv.sub fun q hq => List.mem_append_right _ hq)
   ·skip
    obtain ⟨i', hi1, hi2, hi3⟩ := lsTo_is hls
    obtain rfl : j0 = (at_ + i) % xs.length := hi3.trans (h1 _ _ hi2 hfd)
    rw [hls] at S
    iterate 2 (refine zd E ?_; clear E a; intro a E)
    refine zp E (by first | exact zAc (q := 3) E rfl rfl rfl | exact zAd (q := 3) E rfl rfl rfl) ?_; clear E a; intro a E
    iterate 2 (refine zd E ?_; clear E a; intro a E)
    refine zAf rfl (wp_mapMod E S rfl rfl rfl rfl rfl rfl rfl (k := .i64) (A := []) (B := []) (m := ⟨((at_ + i) % xs.length : Nat), .bool true, 0⟩) pZ (fun z hz => absurd hz (by simp)) ?_); clear E S a; intro a w E S
    refine wpList_nil ?_
    refine zAb hK ?_; clear hK K
    obtain ⟨adS, cS, rfl⟩ := hCS.slice
    refine zAa ?_
    iterate 3 (refine zd E ?_; clear E a; intro a E)
    refine zp E (by first | exact zAc (q := 2) E rfl rfl rfl | exact zAd (q := 2) E rfl rfl rfl) ?_; clear E a; intro a E
    iterate 2 (refine zd E ?_; clear E a; intro a E)
    refine zAf rfl (zBm (cells := [_]) E S rfl rfl dZ rfl rfl rfl rfl rfl dZ rfl ?_); clear E S a; intro a w b66 E S
    refine zAf rfl (zBl (by' := 24) E S rfl rfl dZ rfl rfl hCS pZ ((zBn (g := b66) (T := 22) (xs := [.slice (some ⟨g37, 0, none⟩) 128 128]) (s := 1) (m := 1) rfl (by simp [Value.oneCell']) oZ 1).src (S.stab.at mZ) rfl) rfl rfl rfl rfl rfl rfl (by simp only [maxLen]; omega) oZ ?_); clear E S a; intro a w v67 C67 E S hB67
    obtain ⟨ad67, c67, rfl⟩ := hB67.slice
    refine zd E ?_; clear E a; intro a E
    refine zp E (by first | exact zAc (q := 2) E rfl rfl rfl | exact zAd (q := 2) E rfl rfl rfl) ?_; clear E a; intro a E
    refine zAf rfl (zBa E S rfl rfl rfl rfl rfl rfl pZ (by first | exact Nat.le_of_ble_eq_true rfl | (simp; done) | (simp; omega)) ?_); clear E S a; intro a w E S; try dsimp only [List.set] at S
    refine wpList_nil ?_
    refine zAq ?_
    refine zAb hK ?_; clear hK K
    refine zAa ?_
    refine zp E (zAy E rfl rfl rfl (w_in oZ)) ?_; clear E a; intro a E
    refine zd E ?_; clear E a; intro a E
    refine wpList_nil ?_
    refine zAn ?_
    have hls2 : lsTo R xs at_ (i + 1) = some ((at_ + i) % xs.length) := by rw [lsTo, hfd]; rfl
    have hsv : SecV [(g37, cel (byt z128) 5)] (.slice (some ⟨g37, 0, none⟩) 128 128) z128 := ⟨zEb, zBn (T := 5) (by rw [zAv, zEb]) (zCq _) oZ _, _, _, rfl, Nat.le_refl _⟩
    refine ⟨_, by omega, i + 1, _, C67, D ++ [(g37, cel (byt z128) 5)], vs ++ [.slice (some ⟨g37, 0, none⟩) 128 128], Lv2, rfl, by omega, hB67, ?_, hLv2, by rw [hls2]; exact (S.gather (A := D) (B := [(g37, _)]) pZ pZ).only sZ, E.keep (kE5 rfl rfl rfl rfl rfl)⟩
    rw [zKx, hfd]
    exact All2.snoc (hD.sub fun q hq => List.mem_append_left _ hq) (hsv.sub fun q hq => List.mem_append_right _ hq)
 ·replace hb := Nrm.nrm hb
  refine wp_exit ?_
  refine zAl ?_; clear hK K
  refine zAl ?_
  refine zBi ?_
  refine zAb hK ?_; clear hK K
  refine wp_seq_k ?_; intro K hK
  obtain rfl : i = N := by omega
  refine zAa ?_
  iterate 3 (refine zd E ?_; clear E a; intro a E)
  refine wpList_nil ?_
  refine zAb hK ?_; clear hK K
  refine wp_ret ?_
  refine ret2 E rfl rfl rfl ?_
  exact ⟨_, rfl, b21, vS, CS, D, vs, b19, Lv', rfl, hCS, hD, hLv', S.tr⟩
end
end Go.Proofs.YtpjidiaekifmbaaGreatDoor
namespace Go.Sl
def zJj (w at_ c : Nat) (S : List (List UInt8)) (i : Nat) : List (List UInt8) := (rebF w at_ c S).take i ++ S.drop i
theorem rebTo_zero (w at_ c : Nat) (S : List (List UInt8)) : zJj w at_ c S 0 = S := by simp [zJj]
theorem rebTo_all (w at_ c : Nat) (S : List (List UInt8)) : zJj w at_ c S S.length = rebF w at_ c S := by
 rw [zJj, List.drop_length, List.append_nil, List.take_of_length_le (by rw [zDo]; exact Nat.le_refl _)]
theorem zKy {w at_ c : Nat} {S : List (List UInt8)} {i : Nat} (hi : i ≤ S.length) : (zJj w at_ c S i).length = S.length := by
 rw [zJj, List.length_append, List.length_take, List.length_drop, zDo]; omega
theorem rebTo_succ {w at_ c : Nat} {S : List (List UInt8)} {i : Nat} (hi : i < S.length) : zJj w at_ c S (i + 1) = (zJj w at_ c S i).set i (if (at_ + i) % w = c then xr (xall ((S.drop (i / w * w)).take w)) S[i] else S[i]) := by
 have hl : i < (rebF w at_ c S).length := by rw [zDo]; exact hi
 have hl' : ((rebF w at_ c S).take i).length = i := by rw [List.length_take]; omega
 unfold zJj
 rw [← List.take_append_getElem hl, rebF_at hi]
 generalize (if (at_ + i) % w = c then xr (xall ((S.drop (i / w * w)).take w)) S[i] else S[i]) = y
 rw [List.set_append, hl', if_neg (Nat.lt_irrefl i), Nat.sub_self, List.drop_eq_getElem_cons hi, List.set_cons_zero, List.append_assoc]
 rfl
theorem rebTo_at {w at_ c : Nat} {S : List (List UInt8)} {i : Nat} (hi : i < S.length) : (zJj w at_ c S i)[i]'(by rw [zKy oZ]; exact hi) = S[i] := by
 have hl : ((rebF w at_ c S).take i).length = i := by rw [List.length_take, zDo]; omega
 simp only [zJj]
 rw [List.getElem_append_right oZ]
 simp [hl]
theorem set_same {l : List (List UInt8)} {i : Nat} {x : List UInt8} (hi : i < l.length) (h : l[i] = x) : l.set i x = l := by
 subst h; exact List.set_getElem_self hi
def zGi (w at_ c : Nat) : Nat → Bool
 | 0 => false
 | i + 1 => if (at_ + i) % w = c then true else zGi w at_ c i
theorem zIl {w at_ c : Nat} : ∀ {i : Nat}, zGi w at_ c i = true ↔ ∃ j, j < i ∧ (at_ + j) % w = c
 | 0 => by simp [zGi]
 | i + 1 => by
  rw [zGi]
  split
  ·rename_i q; exact ⟨fun _ => ⟨i, by omega, q⟩, fun _ => rfl⟩
  ·rename_i q
   rw [zIl]
   exact ⟨fun ⟨j, h1, h2⟩ => ⟨j, by omega, h2⟩, fun ⟨j, h1, h2⟩ => ⟨j, by rcases Nat.lt_or_ge j i with h | h; exact h; exact absurd (by rw [show i = j by omega]; exact h2) q, h2⟩⟩
end Go.Sl
namespace Go.Proofs.YtpjidiaekifmbaaGreatDoor
open Go.Sl
set_option maxRecDepth 10000
section
variable (t : Nat) (ad : Option Addr) (wd c : Nat) (vk : Value) (hw : 3 ≤ wd ∧ wd ≤ 5) (g at_ mb N : Nat) (vS : Value) (CS D : zAj) (vs : List Value) (ss : List (List UInt8)) (hCS : Buf CS 22 1 vS N vs) (hD : zCv D vs ss) (hsl : ss.length = N) (hN : N ≤ 12) (hat : at_ ≤ 1000)
include hw hCS hD hsl hN hat
theorem zJf (col : Nat) (hcol : col ≤ 1000) (w0 : World) (H : Hp w0 [[(g, zDv t at_ vS mb)], CS, D, [(t, ptcl (.slice ad wd c) vk 32)]]) :
  Ret Tryz.prog 94 #[ptr g, .int .i64 col] w0 fun u w' => ∃ vo Co D' vs2, u = .tuple #[vo, .bool (zGi wd at_ col N)] ∧ Buf Co 22 1 vo N vs2 ∧ zCv D' vs2 (rebF wd at_ col ss) ∧ zCv D' vs ss ∧
   Trs w0 w' [[(g, zDv t at_ vS mb)], CS, D, [(t, ptcl (.slice ad wd c) vk 32)]] [Co, [(g, zDv t at_ vS mb)], CS, D', [(t, ptcl (.slice ad wd c) vk 32)]] := by
 have S := St.begin H
 have hvl : vs.length = N := by rw [hD.1, hsl]
 obtain ⟨adS, cS, rfl⟩ := hCS.slice
 have hss := hD.secs
 have hcap := hCS.cap_le
 refine zBx 73 Tryz.func94 rfl rfl dZ ?_; intro a E
 refine wp_seq_k ?_; intro K hK
 refine zAa ?_
 iterate 2 (refine zd E ?_; clear E a; intro a E)
 refine wpList_nil ?_
 refine zAb hK ?_; clear hK K
 refine wp_seq_k ?_; intro K hK
 refine zAa ?_
 iterate 2 (refine zd E ?_; clear E a; intro a E)
 refine zp E (by first | exact zAc (q := 0) E rfl rfl rfl | exact zAd (q := 0) E rfl rfl rfl) ?_; clear E a; intro a E
 refine zd E ?_; clear E a; intro a E
 refine zAg E rfl rfl dZ rfl Tryz.func36 rfl yZ rfl (zCt t ad wd c vk 32 _ mZ _ S.hp) ?_
 rintro v15 w ⟨rfl, hT⟩; clear E a; intro a E
 have S := S.all hT
 refine zd E ?_; clear E a; intro a E
 refine wpList_nil ?_
 refine zAb hK ?_; clear hK K
 refine wp_seq_k ?_; intro K hK
 have S := S.addNil
 refine zAa ?_
 iterate 2 (refine zd E ?_; clear E a; intro a E)
 refine zp E (by first | exact zAc (q := 2) E rfl rfl rfl | exact zAd (q := 2) E rfl rfl rfl) ?_; clear E a; intro a E
 refine zd E ?_; clear E a; intro a E
 refine zAf rfl (zBl (by' := 24) E S rfl rfl dZ rfl rfl (Buf.nil 22 1) pZ (hCS.rd.src (S.stab.at mZ) rfl) rfl rfl rfl rfl rfl rfl (by simp only [maxLen]; omega) oZ ?_); clear E S a; intro a w v20 C20 E S hB20
 rw [Nat.zero_add, List.nil_append] at hB20; obtain ⟨ado, co, rfl⟩ := hB20.slice
 refine zd E ?_; clear E a; intro a E
 refine wpList_nil ?_
 refine zAb hK ?_; clear hK K
 refine wp_seq_k ?_; intro K hK
 refine zAa ?_
 refine zd E ?_; clear E a; intro a E
 refine wpList_nil ?_
 refine zAb hK ?_; clear hK K
 iterate 2 (refine wp_seq_k ?_; intro K hK)
 refine zAa ?_
 iterate 3 (refine zd E ?_; clear E a; intro a E)
 refine wpList_nil ?_
 refine zAb hK ?_; clear hK K
 refine wp_block ?_
 refine wp_loop_ghost (fun (m : Nat) (a : Act) (w' : World) => ∃ (i : Nat) (Co D' : zAj) (vs2 : List Value), m = N - i ∧ i ≤ N ∧ Buf Co 22 1 (.slice ado N co) N vs2 ∧ zCv D' vs2 (zJj wd at_ col ss i) ∧ zCv D' vs ss ∧ St w0 [[(g, zDv t at_ (.slice adS N cS) mb)], CS, D, [(t, ptcl (.slice ad wd c) vk 32)]] w' [Co, [(g, zDv t at_ (.slice adS N cS) mb)], CS, D', [(t, ptcl (.slice ad wd c) vk 32)]] ∧
  Fr a 73 [(0, ptr g), (1, .int .i64 col), (6, .int .i64 wd), (7, .slice ado N co), (8, .bool (zGi wd at_ col i)), (22, .int .i64 N), (23, .int .i64 i)]) (N - 0) ?_ ?_
 ·exact ⟨0, C20, D, vs, rfl, by omega, hB20, by rw [rebTo_zero]; exact hD, hD, S.only sZ, E.keep (kE7 rfl rfl rfl rfl rfl rfl rfl)⟩
 clear E; clear a; (try clear S); rintro m a w ⟨i, Co, D', vs2, rfl, hi, hCo, hD2, hD1, S, E⟩
 refine wp_seq_k ?_; intro K hK
 refine zAa ?_
 refine zd E ?_; clear E a; intro a E
 refine wpList_nil ?_
 refine zAb hK ?_; clear hK K
 refine wp_seq_k ?_; intro K hK
 refine zAs E rfl (fun hb => ?_) (fun hb => ?_)
 ·replace hb := Nrm.nrm hb
  refine wp_skip ?_
  refine zAb hK ?_; clear hK K
  refine wp_seq_k ?_; intro K hK
  refine wp_block ?_
  refine wp_seq_k ?_; intro K hK
  have hil : i < ss.length := by omega
  have hml := Nat.mod_lt (at_ + i) (show 0 < wd by omega)
  have hdi := Nat.div_mul_le_self i wd
  obtain ⟨xm, hxm⟩ : ∃ xm, xm = (at_ + i) % wd := ⟨_, rfl⟩
  have hdl := Nat.div_le_self i wd
  obtain ⟨lo, hlo⟩ : ∃ lo, lo = i / wd * wd := ⟨_, rfl⟩
  have hlow : i < lo + wd := by
   have h1 := Nat.div_add_mod i wd
   have h2 := Nat.mod_lt i (show 0 < wd by omega)
   rw [hlo, Nat.mul_comm]; omega
  have hsucc := rebTo_succ (w := wd) (at_ := at_) (c := col) hil
  have hany : zGi wd at_ col (i + 1) = if xm = col then true else zGi wd at_ col i := by rw [hxm]; rfl
  rw [← hxm, ← hlo] at hsucc
  rw [← hxm] at hml
  rw [← hlo] at hdi
  obtain ⟨xq, hxq⟩ : ∃ xq, xq = i / wd := ⟨_, rfl⟩
  rw [← hxq] at hdl hlo
  have hdiv : IntKind.i64.wrap ((i : Int).tdiv wd) = (xq : Int) := by rw [zJq, ← hxq]; exact w_in oZ
  have hmul : IntKind.i64.wrap ((xq : Int) * wd) = (lo : Int) := by rw [← Int.natCast_mul, ← hlo]; exact w_in oZ
  have hmod : IntKind.i64.wrap ((at_ : Int) + i) = ((at_ + i : Nat) : Int) := by rw [show (at_ : Int) + i = ((at_ + i : Nat) : Int) by omega]; exact w_in oZ
  refine zAa ?_
  iterate 2 (refine zd E ?_; clear E a; intro a E)
  refine wpList_nil ?_
  refine zAb hK ?_; clear hK K
  iterate 2 (refine wp_seq_k ?_; intro K hK)
  refine zAa ?_
  iterate 2 (refine zd E ?_; clear E a; intro a E)
  refine zp E (by first | exact zAc (q := 1) E rfl rfl rfl | exact zAd (q := 1) E rfl rfl rfl) ?_; clear E a; intro a E
  iterate 2 (refine zd E ?_; clear E a; intro a E)
  refine zp E (zAy E rfl rfl rfl (hmod)) ?_; clear E a; intro a E
  refine zd E ?_; clear E a; intro a E
  refine zp E (zGh E rfl rfl rfl (by first | decide | omega) (show ((at_ + i : Nat) : Int).tmod wd = ((xm : Nat) : Int) by rw [zIi, ← hxm])) ?_; clear E a; intro a E
  iterate 2 (refine zd E ?_; clear E a; intro a E)
  refine wpList_nil ?_
  refine zAb hK ?_; clear hK K
  refine zAs E rfl (fun hb => ?_) (fun hb => ?_)
  ·replace hb := Nrm.nrm hb
   have hxc : xm ≠ col := oZ
   refine wp_exit ?_
   refine zAl ?_; clear hK K
   refine zBi ?_
   refine zAb hK ?_; clear hK K
   refine zAa ?_
   refine zp E (zAy E rfl rfl rfl (w_in oZ)) ?_; clear E a; intro a E
   refine zd E ?_; clear E a; intro a E
   refine wpList_nil ?_
   refine zAn ?_
   exact ⟨_, by omega, i + 1, Co, D', vs2, rfl, by omega, hCo, by rw [hsucc, if_neg hxc, set_same (by rw [zKy oZ]; exact hil) (rebTo_at hil)]; exact hD2, hD1, S.only sZ, by rw [hany, if_neg hxc]; exact E.keep (kE7 rfl rfl rfl rfl rfl rfl rfl)⟩
  ·replace hb := Nrm.nrm hb
   have hxc : xm = col := oZ
   refine wp_skip ?_
   refine zAb hK ?_; clear hK K
   refine wp_seq_k ?_; intro K hK
   obtain ⟨hi2, hhi⟩ : ∃ hi2, hi2 = min N (lo + wd) := ⟨_, rfl⟩
   obtain ⟨ad5, hs5, hR5⟩ := hCS.rd.cutc (lo := lo) (hi := hi2) oZ oZ oZ
   rw [Nat.mul_one, Nat.mul_one] at hR5
   have hvl5 : ((vs.drop lo).take (hi2 - lo)).length = hi2 - lo := by rw [List.length_take, List.length_drop]; omega
   have hrow : (ss.drop lo).take (hi2 - lo) = (ss.drop lo).take wd := by
    have hdl2 : (ss.drop lo).length = N - lo := by rw [List.length_drop, hsl]
    by_cases q : lo + wd ≤ N
    ·rw [show hi2 - lo = wd by omega]
    ·rw [List.take_of_length_le oZ, List.take_of_length_le oZ]
   obtain ⟨vi, hvi, hsv⟩ := hD1.at hil
   obtain ⟨gs, os, cs, rfl, hcs⟩ := hsv.addr
   obtain ⟨gS, rfl⟩ := hCS.addr oZ
   obtain ⟨go, rfl⟩ := hCo.addr oZ
   refine zDe S (.ofL [(0, 0), (1, 0), (2, 0), (3, 0), (4, 0), (5, 0), (6, 0), (7, 0), (8, 0), (9, 0), (10, 0), (11, 0), (12, 0), (13, 0), (14, 0), (15, 0), (16, 0), (17, 0), (18, 0), (19, 0), (20, 0)]) [[(g, zDv t at_ (.slice (some ⟨gS, 0, none⟩) N cS) mb)], CS] (fun h => h.sub (by first | (simp; done) | (simp +contextual; done) | (simp [*]; done))) yZ yZ ?_
   clear S; intro w S
   iterate 2 (refine zmd E ?_; clear E a; intro a E)
   refine zm E rfl (fun w h => by first | exact zAc (q := 2) E rfl rfl rfl | exact zAd (q := 2) E rfl rfl rfl) ?_; clear E a; intro a E
   iterate 3 (refine zmd E ?_; clear E a; intro a E)
   refine zm E rfl (fun w h => zGg E rfl rfl rfl (by first | decide | omega) (hdiv)) ?_; clear E a; intro a E
   refine zmd E ?_; clear E a; intro a E
   refine zm E rfl (fun w h => zCx E rfl rfl rfl (hmul)) ?_; clear E a; intro a E
   iterate 4 (refine zmd E ?_; clear E a; intro a E)
   refine zm E rfl (fun w h => zGg E rfl rfl rfl (by first | decide | omega) (hdiv)) ?_; clear E a; intro a E
   refine zmd E ?_; clear E a; intro a E
   refine zm E rfl (fun w h => zCx E rfl rfl rfl (hmul)) ?_; clear E a; intro a E
   refine zmd E ?_; clear E a; intro a E
   refine zm E rfl (fun w h => zAy E rfl rfl rfl (show IntKind.i64.wrap ((lo : Int) + wd) = ((lo + wd : Nat) : Int) by rw [show (lo : Int) + wd = ((lo + wd : Nat) : Int) by omega]; exact w_in oZ)) ?_; clear E a; intro a E
   refine zm E rfl (fun w h => rn_min E rfl rfl rfl) ?_; clear E a; intro a E
   refine zm E rfl (fun w h => zGb (s := 1) (lo := lo) (hi := hi2) E rfl rfl rfl rfl rfl rfl rfl oZ oZ oZ) ?_; clear E a; intro a E
   rw [hs5] at E
   refine zmd E ?_; clear E a; intro a E
   refine zBd ?_
   refine zAb hK ?_; clear hK K
   refine wp_seq_k ?_; intro K hK
   refine zDe S (.ofL [(0, 0), (1, 0), (2, 0), (4, 0), (5, 0), (6, 0), (7, 0), (8, 0), (9, 0), (10, 0), (3, 1), (11, 1), (12, 1), (13, 0), (14, 3)]) [[(g, zDv t at_ (.slice (some ⟨gS, 0, none⟩) N cS) mb)], CS] (fun h => h.sub (by first | (simp; done) | (simp +contextual; done) | (simp [*]; done))) yZ yZ ?_
   clear S; intro w S
   iterate 5 (refine zmd E ?_; clear E a; intro a E)
   refine zm E rfl (fun w h => by first | exact zAc (q := 2) E rfl rfl rfl | exact zAd (q := 2) E rfl rfl rfl) ?_; clear E a; intro a E
   iterate 2 (refine zmd E ?_; clear E a; intro a E)
   refine zm E rfl (fun w h => by first | exact zAp E rfl rfl rfl rfl rfl rfl oZ | exact zAz E rfl rfl rfl rfl rfl rfl oZ | exact zAm E rfl rfl rfl rfl rfl rfl oZ) ?_; clear E a; intro a E
   refine zm E rfl (fun w h => zAo E rfl rfl rfl (hCS.rd.cells (h.at mZ) rfl i _ hvi)) ?_; clear E a; intro a E
   refine zBo E rfl rfl rfl dZ rfl Tryz.func75 rfl yZ rfl (pxor_ret _ CS D' _ ((ss.drop lo).take (hi2 - lo)) (by rw [hvl5]; exact hR5) ((hD1.drop lo).take (hi2 - lo)) (by rw [List.length_take, List.length_drop]; omega) _ mZ mZ _ S.hp) ?_
   rintro v59 w ⟨gx, rfl, hT⟩; clear E a; intro a E
   have S := S.all hT; rw [hrow] at S; obtain ⟨X, hX⟩ : ∃ X, X = xall ((ss.drop lo).take wd) := ⟨_, rfl⟩; rw [← hX] at S hsucc; have hXl : X.length = 128 := (by rw [hX]; exact zEy ((hss.drop lo).take wd)); have S := S.gather (A := D') (B := [(gx, _)]) pZ pZ
   have hsx : SecV [(gx, cel (byt X) 5)] (.slice (some ⟨gx, 0, none⟩) 128 128) X := ⟨hXl, zBn (T := 5) (by rw [zAv, hXl]) (zCq _) oZ _, _, _, rfl, Nat.le_refl _⟩
   obtain ⟨D2, hD2e⟩ : ∃ D2, D2 = D' ++ [(gx, cel (byt X) 5)] := ⟨_, rfl⟩
   rw [← hD2e] at S
   have k1 : ∀ q ∈ D', q ∈ D2 := fun q hq => (by rw [hD2e]; exact List.mem_append_left _ hq)
   have hD1 := hD1.sub k1
   have hD2 := hD2.sub k1
   have hsv := hsv.sub k1
   have hsx := hsx.sub (E := D2) (fun q hq => by rw [hD2e]; exact List.mem_append_right _ hq)
   have hpair : zCv D2 [.slice (some ⟨gx, 0, none⟩) 128 128, .slice (some ⟨gs, os, none⟩) 128 cs] [X, ss[i]] := All2.snoc (All2.snoc All2.nil hsx) hsv
   refine ⟨S.stab.sub (by first | (simp; done) | (simp +contextual; done) | (simp [*]; done)), ?_⟩
   refine zDb rfl rfl (zBm (cells := [_, _]) E S rfl rfl dZ rfl rfl rfl rfl rfl dZ rfl ?_); clear E S a; intro a w b67 E S; refine ⟨S.stab.sub (by first | (simp; done) | (simp +contextual; done) | (simp [*]; done)), ?_⟩
   refine zBo E rfl rfl rfl dZ rfl Tryz.func75 rfl yZ rfl (pxor_ret _ [(b67, _)] D2 _ [X, ss[i]] (zBn (T := 22) (xs := [.slice (some ⟨gx, 0, none⟩) 128 128, .slice (some ⟨gs, os, none⟩) 128 cs]) (s := 1) (m := 2) rfl (by simp [Value.oneCell']) oZ 2) hpair (by simp) _ mZ mZ _ S.hp) ?_
   rintro v68 w ⟨gy, rfl, hT⟩; clear E a; intro a E
   have S := S.all hT
   refine ⟨S.stab.sub (by first | (simp; done) | (simp +contextual; done) | (simp [*]; done)), ?_⟩
   refine zm E rfl (fun w h => by first | exact zAp E rfl rfl rfl rfl rfl rfl oZ | exact zAz E rfl rfl rfl rfl rfl rfl oZ | exact zAm E rfl rfl rfl rfl rfl rfl oZ) ?_; clear E a; intro a E
   refine zCd rfl rfl (zJl E S rfl rfl rfl rfl rfl rfl hCo pZ (i := i) (by have := hD2.1; rw [this, zKy oZ]; exact hil) (Nat.zero_add _) ?_); clear E S a; intro a w Cs14 E hBs14 S
   refine zBd ?_
   refine zAb hK ?_; clear hK K
   refine zAa ?_
   refine zd E ?_; clear E a; intro a E
   refine wpList_nil ?_
   refine zAq ?_
   refine zAb hK ?_; clear hK K
   refine zAa ?_
   refine zp E (zAy E rfl rfl rfl (w_in oZ)) ?_; clear E a; intro a E
   refine zd E ?_; clear E a; intro a E
   refine wpList_nil ?_
   refine zAn ?_
   have hxv : xall [X, ss[i]] = xr X ss[i] := by rw [show xall [X, ss[i]] = xr (xr z128 X) ss[i] from rfl, zKt hXl]
   rw [hxv] at S
   have hrl : (xr X ss[i]).length = 128 := xr_len hXl (hss _ (List.getElem_mem hil))
   have hsy : SecV [(gy, cel (byt (xr X ss[i])) 5)] (.slice (some ⟨gy, 0, none⟩) 128 128) (xr X ss[i]) := ⟨hrl, zBn (T := 5) (by rw [zAv, hrl]) (zCq _) oZ _, _, _, rfl, Nat.le_refl _⟩
   refine ⟨_, by omega, i + 1, Cs14, D2 ++ [(gy, cel (byt (xr X ss[i])) 5)], _, rfl, by omega, hBs14, ?_, hD1.sub fun q hq => List.mem_append_left _ hq, (S.gather (A := D2) (B := [(gy, _)]) pZ pZ).only sZ, by rw [hany, if_pos hxc]; exact E.keep (kE7 rfl rfl rfl rfl rfl rfl rfl)⟩
   rw [hsucc, if_pos hxc]
   exact All2.set (hD2.sub fun q hq => List.mem_append_left _ hq) i (hsy.sub fun q hq => List.mem_append_right _ hq)
 ·replace hb := Nrm.nrm hb
  refine wp_exit ?_
  refine zAl ?_; clear hK K
  refine zAl ?_
  refine zBi ?_
  refine zAb hK ?_; clear hK K
  refine wp_seq_k ?_; intro K hK
  obtain rfl : i = N := by omega
  refine zAa ?_
  iterate 4 (refine zd E ?_; clear E a; intro a E)
  refine wpList_nil ?_
  refine zAb hK ?_; clear hK K
  refine wp_ret ?_
  refine ret2 E rfl rfl rfl ?_
  exact ⟨_, rfl, _, Co, D', vs2, rfl, hCo, by rw [← rebTo_all, hsl]; exact hD2, hD1, S.tr⟩
end
end Go.Proofs.YtpjidiaekifmbaaGreatDoor
