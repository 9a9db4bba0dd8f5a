/-
  Texts put together (12).
-/
import Derived.Test.YtbogecljkaimdaaGreatDoorZRecordReadsW11
set_option maxHeartbeats 1000000
namespace Go.Proofs.YtbogecljkaimdaaGreatDoor
open Go.Sl
set_option maxRecDepth 10000
theorem head_nums {b : List UInt8} (h5 : 5 ≤ b.length) : zCs b = (b[0]).toNat ∧ zBm b = (b[1]).toNat + 256 * ((b[2]).toNat + 256 * ((b[3]).toNat + 256 * (b[4]).toNat)) := by
 match b, h5 with
 | y0 :: y1 :: y2 :: y3 :: y4 :: tl, _ => simp [zCs, zBm, zBv]
theorem zLe {b : List UInt8} (h : 5 + zBm b ≤ b.length) : zEr (zCs b) (zEk b) = b.take (5 + zBm b) := by
 have hl : (zEk b).length = zBm b := by rw [zEk, List.length_take, List.length_drop]; omega
 have e1 : zBj (zCs b) 1 = b.take 1 := by
  have := form_cut b (q := 0) (k := 1) oZ
  rwa [List.drop_zero] at this
 have e2 : zBj (zBm b) 4 = (b.drop 1).take 4 := form_cut b (q := 1) (k := 4) oZ
 rw [zEr, hl, headB, Int.toNat_natCast, e1, e2, zEk]
 rw [show b.take (5 + zBm b) = b.take 1 ++ ((b.drop 1).take 4 ++ (b.drop 5).take (zBm b)) by
  rw [show 5 + zBm b = 1 + (4 + zBm b) by omega, List.take_add, List.take_add (l := b.drop 1), List.drop_drop]]
 rw [List.append_assoc]
theorem own_take {b : List UInt8} (h : 5 + zBm b ≤ b.length) (s : Fs) : ownS (zCs b) (zEk b) s = ownD b s := by rw [ownS, zLe h]; rfl
theorem piece_iff {b : List UInt8} (h : 37 + zBm b ≤ b.length) (s : Fs) : zCt (zCs b) (zEk b) s = b.take (37 + zBm b) ↔ zEf (ownD b s) = (b.drop (5 + zBm b)).take 32 := by
 rw [zCt, own_take oZ, zLe oZ, show 37 + zBm b = 5 + zBm b + 32 by omega, List.take_add (l := b) (i := 5 + zBm b) (j := 32)]
 exact ⟨fun h => List.append_cancel_left h, fun h => by rw [h]⟩
set_option maxHeartbeats 1000000 in
theorem udecode_ret (D : zAl) (ad : Option Addr) (c : Nat) (b : List UInt8) (hD : Rd D 1 (.slice ad b.length c) b.length (byt b)) (hcap : b.length ≤ c) (hbl : b.length ≤ 140737488351300) (s : Fs) (hok : s.Ok) {As : List zAl} (mD : D ∈ As) (hG0 : Tab As 0 sha0.l) (hG1 : Tab As 1 shaK) (w0 : World) (H : Hp w0 As) :
  Ret Tryz.prog 38 #[.slice ad b.length c, s.agg] w0 (decP (decR b s) As w0) := by
 have S := St.begin H
 refine zBt 115 Tryz.func38 rfl rfl dZ ?_; intro a E
 refine wp_seq_k ?_; intro K hK
 refine zAa ?_
 refine zAg rfl (zBx E S rfl rfl dZ rfl rfl ?_); clear E S a; intro a w b3 E S
 refine zAg rfl (zBf E S rfl rfl dZ rfl rfl rfl ?_); clear E S a; intro a w b4 E S
 refine zd E ?_; clear E a; intro a E
 refine zAg rfl (zBf E S rfl rfl dZ rfl rfl rfl ?_); clear E S a; intro a w b6 E S
 refine zd E ?_; clear E a; intro a E
 refine wpList_nil ?_
 refine zAb hK ?_; clear hK K
 iterate 2 (refine wp_seq_k ?_; intro K hK)
 refine zAa ?_
 iterate 3 (refine zd E ?_; clear E a; intro a E)
 refine wpList_nil ?_
 refine zAb hK ?_; clear hK K
 refine zAs E rfl (fun hb => ?_) (fun hb => ?_)
 ·replace hb := Nrm.nrm hb
  refine wp_seq_k ?_; intro K hK
  refine zAa ?_
  refine zp E (zBp (cells := [_, _, _, _, _, _, _, _, _, _, _, _, _]) E rfl rfl rfl) ?_; clear E a; intro a E
  refine zp E (zBp (cells := [_, _, _, _]) E rfl rfl rfl) ?_; clear E a; intro a E
  refine zAg rfl (zAq E S rfl rfl rfl rfl (by simp [Value.oneCell']) rfl pZ (by simp) ?_); clear E S a; intro a w E S; simp only [List.take_succ_cons, List.take_zero, List.drop_succ_cons, List.drop_zero, List.cons_append, List.nil_append, List.append_nil, List.length_cons, List.length_nil, Nat.zero_add, Nat.add_zero] at S
  refine zd E ?_; clear E a; intro a E
  refine zAg rfl (zAq E S rfl rfl rfl rfl (by simp [Value.oneCell']) rfl pZ (by simp) ?_); clear E S a; intro a w E S; simp only [List.take_succ_cons, List.take_zero, List.drop_succ_cons, List.drop_zero, List.cons_append, List.nil_append, List.append_nil, List.length_cons, List.length_nil, Nat.zero_add, Nat.add_zero] at S
  refine zd E ?_; clear E a; intro a E
  refine wpList_nil ?_
  refine zAb hK ?_; clear hK K
  refine wp_ret ?_
  refine zAn ?_; clear hK K
  refine zDe E rfl rfl rfl rfl rfl (S.get pZ) rfl (S.get pZ) rfl ?_
  exact ⟨_, rfl, zEl (dec_1 oZ) ((St.drops0 [_, _, _] S).addNil).tr⟩
 ·replace hb := Nrm.nrm hb
  refine wp_skip ?_
  refine zAb hK ?_; clear hK K
  refine wp_seq_k ?_; intro K hK
  have h5 : 5 ≤ b.length := by omega
  obtain ⟨g, off, rfl⟩ := hD.addr oZ
  have hh := head_nums h5
  have l1 := (b[1]).toNat_lt
  have l2 := (b[2]).toNat_lt
  have l3 := (b[3]).toNat_lt
  have l4 := (b[4]).toNat_lt
  obtain ⟨x0, hx0⟩ : ∃ x, x = b[0].toNat := ⟨_, rfl⟩
  obtain ⟨x1, hx1⟩ : ∃ x, x = b[1].toNat := ⟨_, rfl⟩
  obtain ⟨x2, hx2⟩ : ∃ x, x = b[2].toNat := ⟨_, rfl⟩
  obtain ⟨x3, hx3⟩ : ∃ x, x = b[3].toNat := ⟨_, rfl⟩
  obtain ⟨x4, hx4⟩ : ∃ x, x = b[4].toNat := ⟨_, rfl⟩
  have c0 : ∀ {w' : World}, Stab [D] w' → w'.cell? ⟨g, off + 0, none⟩ = some (.int .u8 x0) := fun h => by rw [hx0]; exact hD.byte (h.at mZ) (i := 0) oZ
  have c1 : ∀ {w' : World}, Stab [D] w' → w'.cell? ⟨g, off + 1, none⟩ = some (.int .u8 x1) := fun h => by rw [hx1]; exact hD.byte (h.at mZ) (i := 1) oZ
  have c2 : ∀ {w' : World}, Stab [D] w' → w'.cell? ⟨g, off + 2, none⟩ = some (.int .u8 x2) := fun h => by rw [hx2]; exact hD.byte (h.at mZ) (i := 2) oZ
  have c3 : ∀ {w' : World}, Stab [D] w' → w'.cell? ⟨g, off + 3, none⟩ = some (.int .u8 x3) := fun h => by rw [hx3]; exact hD.byte (h.at mZ) (i := 3) oZ
  have c4 : ∀ {w' : World}, Stab [D] w' → w'.cell? ⟨g, off + 4, none⟩ = some (.int .u8 x4) := fun h => by rw [hx4]; exact hD.byte (h.at mZ) (i := 4) oZ
  have hD1 : ∀ {L : List zAl} {w' : World}, D ∈ L → Stab L w' → Stab [D] w' := fun m h => h.sub (by simp; exact m)
  rw [← hx0, ← hx1, ← hx2, ← hx3, ← hx4] at hh
  rw [← hx1] at l1
  rw [← hx2] at l2
  rw [← hx3] at l3
  rw [← hx4] at l4
  obtain ⟨n, hn⟩ : ∃ n, n = zBm b := ⟨_, rfl⟩
  obtain ⟨k, hk⟩ : ∃ k, k = zCs b := ⟨_, rfl⟩
  have hklt : k < 256 := by rw [hk]; exact kindOf_lt b
  rw [← hn, ← hk] at hh
  obtain ⟨hhk, hhn⟩ := hh
  subst hhk
  refine zBg S (.ofL [(0, 0), (1, 0), (2, 0), (3, 0), (4, 0), (5, 0), (6, 0), (7, 0), (8, 0), (9, 0), (10, 0), (11, 0), (12, 0), (13, 0), (14, 0), (15, 0), (16, 0), (17, 0), (18, 0), (19, 0), (20, 0), (21, 0), (22, 0)]) yZ yZ ?_
  clear S; intro w S
  refine zmd E ?_; clear E a; intro a E
  refine zm E rfl (fun w h => zAw (i := 1) E rfl rfl rfl rfl rfl rfl oZ) ?_; clear E a; intro a E
  refine zm E rfl (fun w h => zBd E rfl rfl rfl (c1 (hD1 mZ h))) ?_; clear E a; intro a E
  refine zm E rfl (fun w h => zAo E rfl rfl rfl rfl (zCz oZ)) ?_; clear E a; intro a E
  refine zmd E ?_; clear E a; intro a E
  refine zm E rfl (fun w h => zAw (i := 2) E rfl rfl rfl rfl rfl rfl oZ) ?_; clear E a; intro a E
  refine zm E rfl (fun w h => zBd E rfl rfl rfl (c2 (hD1 mZ h))) ?_; clear E a; intro a E
  refine zm E rfl (fun w h => zAo E rfl rfl rfl rfl (zCz oZ)) ?_; clear E a; intro a E
  refine zmd E ?_; clear E a; intro a E
  refine zm E rfl (fun w h => zAw (i := 3) E rfl rfl rfl rfl rfl rfl oZ) ?_; clear E a; intro a E
  refine zm E rfl (fun w h => zBd E rfl rfl rfl (c3 (hD1 mZ h))) ?_; clear E a; intro a E
  refine zm E rfl (fun w h => zAo E rfl rfl rfl rfl (zCz oZ)) ?_; clear E a; intro a E
  refine zmd E ?_; clear E a; intro a E
  refine zm E rfl (fun w h => zAw (i := 4) E rfl rfl rfl rfl rfl rfl oZ) ?_; clear E a; intro a E
  refine zm E rfl (fun w h => zBd E rfl rfl rfl (c4 (hD1 mZ h))) ?_; clear E a; intro a E
  refine zm E rfl (fun w h => zAo E rfl rfl rfl rfl (zCz oZ)) ?_; clear E a; intro a E
  refine zm E rfl (fun w h => zEg E rfl rfl rfl (by first | exact zEq (x := 256) oZ | exact zDx (x := 256) oZ | exact w_in oZ | exact rfl)) ?_; clear E a; intro a E
  refine zm E rfl (fun w h => zBc E rfl rfl rfl (by first | exact wa1 oZ | exact w_in oZ | exact zBb oZ | exact rfl)) ?_; clear E a; intro a E
  refine zm E rfl (fun w h => zEg E rfl rfl rfl (by first | exact zEq (x := 256) oZ | exact zDx (x := 256) oZ | exact w_in oZ | exact rfl)) ?_; clear E a; intro a E
  refine zm E rfl (fun w h => zBc E rfl rfl rfl (by first | exact wa1 oZ | exact w_in oZ | exact zBb oZ | exact rfl)) ?_; clear E a; intro a E
  refine zm E rfl (fun w h => zEg E rfl rfl rfl (by first | exact zEq (x := 256) oZ | exact zDx (x := 256) oZ | exact w_in oZ | exact rfl)) ?_; clear E a; intro a E
  refine zm E rfl (fun w h => zBc E rfl rfl rfl (by first | exact wa1 oZ | exact w_in oZ | exact zBb oZ | exact rfl)) ?_; clear E a; intro a E
  rw [← hhn] at E
  refine zmd E ?_; clear E a; intro a E
  refine zBi ?_
  refine zAb hK ?_; clear hK K
  iterate 2 (refine wp_seq_k ?_; intro K hK)
  replace E := E.keep (e' := [(0, _), (3, _), (4, _), (5, _), (6, _), (7, _), (8, _)]) (kE7 rfl rfl rfl rfl rfl rfl rfl)
  refine zDd (fun (a : Act) (w' : World) => ∃ z, (z = true ↔ (¬ inK k ∨ 2048 < n)) ∧ St w0 As w' ([(b6, cel [.int .u64 0, .int .u64 0, .int .u64 0, .int .u64 0] 29)] :: [(b4, cel [.int .i64 0, str [], .int .i64 0, .int .i64 0, .int .i64 0, .int .i64 0, str [], nilv, .int .i64 0, .int .i64 0, .int .i64 0, nilv, nilv] 26)] :: [(b3, cel (fsC s) 29)] :: As) ∧ Fr a 115 [(0, .slice (some ⟨g, off, none⟩) b.length c), (3, ptr b3), (4, ptr b4), (5, .int .i64 0), (6, ptr b6), (7, .int .i64 0), (8, .int .i64 n), (55, .bool z)]) ?_ ?_
  ·skip
   refine zAa ?_
   refine zd E ?_; clear E a; intro a E
   refine zp E (zAw (i := 0) E rfl rfl rfl rfl rfl rfl oZ) ?_; clear E a; intro a E
   refine zp E (zBd E rfl rfl rfl (c0 (hD1 mZ S.stab))) ?_; clear E a; intro a E
   iterate 2 (refine zd E ?_; clear E a; intro a E)
   refine zAj E (t := 46) rfl (fun hb46 => ?_) (fun hb46 => ?_)
   ·have hb46n := hb46; replace hb46n := Nrm.nrm hb46n
    iterate 4 (refine zn E hb46 ?_; clear E a; intro a E)
    refine zp E (zAf E rfl rfl hb46 rfl) ?_; clear E a; intro a E
    refine zd E ?_; clear E a; intro a E
    iterate 2 (refine zn E rfl ?_; clear E a; intro a E)
    refine zp E (zAf E rfl rfl rfl rfl) ?_; clear E a; intro a E
    refine wpList_nil ?_
    refine zAk ?_
    refine ⟨_, ?_, S, E.keep (kE8 rfl rfl rfl rfl rfl rfl rfl rfl)⟩
    unfold inK
    exact ⟨fun q => by first | omega | (simp only [decide_eq_true_eq] at q; omega) | (simp at q; omega) | exact Bool.noConfusion q, fun q => by first | rfl | (simp only [decide_eq_true_eq]; omega) | (exfalso; omega) | (simp; omega)⟩
   ·have hb46n := hb46; replace hb46n := Nrm.nrm hb46n
    refine zyd E hb46 ?_; clear E a; intro a E
    refine zy E hb46 (zAw (i := 0) E rfl rfl rfl rfl rfl rfl oZ) ?_; clear E a; intro a E
    refine zy E hb46 (zBd E rfl rfl rfl (c0 (hD1 mZ S.stab))) ?_; clear E a; intro a E
    refine zyd E hb46 ?_; clear E a; intro a E
    refine zp E (zAe E rfl rfl hb46 rfl) ?_; clear E a; intro a E
    refine zd E ?_; clear E a; intro a E
    refine zAj E (t := 52) rfl (fun hb52 => ?_) (fun hb52 => ?_)
    ·have hb52n := hb52; replace hb52n := Nrm.nrm hb52n
     iterate 2 (refine zn E hb52 ?_; clear E a; intro a E)
     refine zp E (zAf E rfl rfl hb52 rfl) ?_; clear E a; intro a E
     refine wpList_nil ?_
     refine zAk ?_
     refine ⟨_, ?_, S, E.keep (kE8 rfl rfl rfl rfl rfl rfl rfl rfl)⟩
     unfold inK
     exact ⟨fun q => by first | omega | (simp only [decide_eq_true_eq] at q; omega) | (simp at q; omega) | exact Bool.noConfusion q, fun q => by first | rfl | (simp only [decide_eq_true_eq]; omega) | (exfalso; omega) | (simp; omega)⟩
    ·have hb52n := hb52; replace hb52n := Nrm.nrm hb52n
     iterate 2 (refine zyd E hb52 ?_; clear E a; intro a E)
     refine zp E (zAe E rfl rfl hb52 rfl) ?_; clear E a; intro a E
     refine wpList_nil ?_
     refine zAk ?_
     refine ⟨_, ?_, S, E.keep (kE8 rfl rfl rfl rfl rfl rfl rfl rfl)⟩
     unfold inK
     exact ⟨fun q => by first | omega | (simp only [decide_eq_true_eq] at q; omega) | (simp at q; omega) | exact Bool.noConfusion q, fun q => by first | rfl | (simp only [decide_eq_true_eq]; omega) | (exfalso; omega) | (simp; omega)⟩
  ·clear E S a; intro a w J; obtain ⟨z, hz, S, E⟩ := J
   refine zAb hK ?_; clear hK K
   refine zAs E rfl (fun hb => ?_) (fun hb => ?_)
   ·replace hb := Nrm.nrm hb
    have hbad := hz.1 hb
    refine wp_seq_k ?_; intro K hK
    refine zAa ?_
    refine zp E (zBp (cells := [_, _, _, _, _, _, _, _, _, _, _, _, _]) E rfl rfl rfl) ?_; clear E a; intro a E
    refine zp E (zBp (cells := [_, _, _, _]) E rfl rfl rfl) ?_; clear E a; intro a E
    refine zAg rfl (zAq E S rfl rfl rfl rfl (by simp [Value.oneCell']) rfl pZ (by simp) ?_); clear E S a; intro a w E S; simp only [List.take_succ_cons, List.take_zero, List.drop_succ_cons, List.drop_zero, List.cons_append, List.nil_append, List.append_nil, List.length_cons, List.length_nil, Nat.zero_add, Nat.add_zero] at S
    refine zd E ?_; clear E a; intro a E
    refine zAg rfl (zAq E S rfl rfl rfl rfl (by simp [Value.oneCell']) rfl pZ (by simp) ?_); clear E S a; intro a w E S; simp only [List.take_succ_cons, List.take_zero, List.drop_succ_cons, List.drop_zero, List.cons_append, List.nil_append, List.append_nil, List.length_cons, List.length_nil, Nat.zero_add, Nat.add_zero] at S
    refine zd E ?_; clear E a; intro a E
    refine wpList_nil ?_
    refine zAb hK ?_; clear hK K
    refine wp_ret ?_
    refine zAn ?_; clear hK K
    refine zDe E rfl rfl rfl rfl rfl (S.get pZ) rfl (S.get pZ) rfl ?_
    exact ⟨_, rfl, zEl (dec_2 h5 (by rw [← hk, ← hn]; exact hbad)) ((St.drops0 [_, _, _] S).addNil).tr⟩
   ·replace hb := Nrm.nrm hb
    have hgood : ¬ (¬ inK k ∨ 2048 < n) := fun h => by rw [hz.2 h] at hb; cases hb
    refine wp_skip ?_
    refine zAb hK ?_; clear hK K
    iterate 2 (refine wp_seq_k ?_; intro K hK)
    have hin : inK (k : Int) := Classical.byContradiction fun q => hgood (.inl q)
    have hs2 : zBm b ≤ 2048 := by rw [← hn]; exact Nat.le_of_not_lt fun q => hgood (.inr q)
    have hkb : inK (zCs b) := by rw [← hk]; exact hin
    refine zAa ?_
    iterate 3 (refine zd E ?_; clear E a; intro a E)
    refine zp E (zBc E rfl rfl rfl (by first | exact zHq (x := 37) oZ | exact w_in oZ | exact zBb oZ | exact rfl)) ?_; clear E a; intro a E
    refine zd E ?_; clear E a; intro a E
    refine wpList_nil ?_
    refine zAb hK ?_; clear hK K
    refine zAs E rfl (fun hb => ?_) (fun hb => ?_)
    ·replace hb := Nrm.nrm hb
     refine wp_seq_k ?_; intro K hK
     refine zAa ?_
     refine zp E (zBp (cells := [_, _, _, _, _, _, _, _, _, _, _, _, _]) E rfl rfl rfl) ?_; clear E a; intro a E
     refine zp E (zBp (cells := [_, _, _, _]) E rfl rfl rfl) ?_; clear E a; intro a E
     refine zAg rfl (zAq E S rfl rfl rfl rfl (by simp [Value.oneCell']) rfl pZ (by simp) ?_); clear E S a; intro a w E S; simp only [List.take_succ_cons, List.take_zero, List.drop_succ_cons, List.drop_zero, List.cons_append, List.nil_append, List.append_nil, List.length_cons, List.length_nil, Nat.zero_add, Nat.add_zero] at S
     refine zd E ?_; clear E a; intro a E
     refine zAg rfl (zAq E S rfl rfl rfl rfl (by simp [Value.oneCell']) rfl pZ (by simp) ?_); clear E S a; intro a w E S; simp only [List.take_succ_cons, List.take_zero, List.drop_succ_cons, List.drop_zero, List.cons_append, List.nil_append, List.append_nil, List.length_cons, List.length_nil, Nat.zero_add, Nat.add_zero] at S
     refine zd E ?_; clear E a; intro a E
     refine wpList_nil ?_
     refine zAb hK ?_; clear hK K
     refine wp_ret ?_
     refine zAn ?_; clear hK K
     refine zDe E rfl rfl rfl rfl rfl (S.get pZ) rfl (S.get pZ) rfl ?_
     exact ⟨_, rfl, zEl (dec_3 h5 hkb hs2 oZ) ((St.drops0 [_, _, _] S).addNil).tr⟩
    ·replace hb := Nrm.nrm hb
     refine wp_skip ?_
     refine zAb hK ?_; clear hK K
     refine wp_seq_k ?_; intro K hK
     have h7 : 37 + n ≤ b.length := by omega
     obtain ⟨body, hbody⟩ : ∃ body, body = zEk b := ⟨_, rfl⟩
     have hRb := hD.bytes (lo := 5) (hi := 5 + n) (mx := c) oZ oZ oZ
     rw [show 5 + n - 5 = n by omega] at hRb
     have hbe : (b.drop 5).take n = body := by rw [hbody, zEk, ← hn]
     rw [hbe] at hRb
     have hbn : body.length ≤ 2048 := by rw [← hbe, List.length_take]; omega
     obtain ⟨own, hown⟩ : ∃ own, own = ownS k body s := ⟨_, rfl⟩
     have hownD : ownD b s = own := by rw [hown, hk, hbody]; exact (own_take oZ s).symm
     refine zDd (fun (a : Act) (w' : World) => ∃ b10 C2 v2, BB C2 v2 (zCt k body s) ∧ St w0 As w' (C2 :: [(b10, cel (fsC own) 29)] :: [(b6, cel [.int .u64 0, .int .u64 0, .int .u64 0, .int .u64 0] 29)] :: [(b4, cel [.int .i64 0, str [], .int .i64 0, .int .i64 0, .int .i64 0, .int .i64 0, str [], nilv, .int .i64 0, .int .i64 0, .int .i64 0, nilv, nilv] 26)] :: As) ∧ Fr a 115 [(0, .slice (some ⟨g, off, none⟩) b.length c), (4, ptr b4), (5, .int .i64 0), (6, ptr b6), (7, .int .i64 0), (8, .int .i64 n), (9, v2), (10, ptr b10)]) ?_ ?_
     ·skip
      refine zCn S (.cons (0, 0) (.cons (1, 0) (.cons (2, 0) (.cons (3, 0) (.cons (4, 0) (.cons (5, 0) (.cons (6, 0) (.cons (7, 0) (.cons (8, 0) (.fork 9 (.ofL [(10, 0), (11, 0), (12, 0), (13, 1), (14, 0), (15, 3)]) 13 (.ofL [(9, 1), (10, 0), (11, 0), (12, 0), (14, 0), (15, 3)]))))))))))) [[(b3, cel (fsC s) 29)], D] (fun h => h.sub (by first | (simp; done) | (simp +contextual; done) | (simp [*]; done))) yZ yZ ?_
      clear S; intro w S
      refine zmd E ?_; clear E a; intro a E
      refine zm E rfl (fun w h => zAw (i := 0) E rfl rfl rfl rfl rfl rfl oZ) ?_; clear E a; intro a E
      refine zm E rfl (fun w h => zBd E rfl rfl rfl (c0 (hD1 (by simp) h))) ?_; clear E a; intro a E
      refine zm E rfl (fun w h => zAo E rfl rfl rfl rfl (zCz oZ)) ?_; clear E a; intro a E
      iterate 2 (refine zmd E ?_; clear E a; intro a E)
      refine zm E rfl (fun w h => zBc E rfl rfl rfl (by first | exact zHq (x := 5) oZ | exact w_in oZ | exact zBb oZ | exact rfl)) ?_; clear E a; intro a E
      refine zm E rfl (fun w h => zDi (lo := 5) (hi := 5 + n) (s := 1) E rfl rfl rfl rfl rfl rfl rfl oZ oZ oZ) ?_; clear E a; intro a E
      refine zm E rfl (fun w h => zAz (vs := [_, _, _, _]) E rfl rfl rfl (h.one mZ) rfl rfl) ?_; clear E a; intro a E
      refine ⟨?_, ?_⟩
      ·skip
       refine zBs E rfl rfl rfl dZ rfl Tryz.func18 rfl yZ rfl (zGz k oZ oZ hRb oZ s hok mZ (by repeat (first | exact hG0 | apply Tab.tail)) (by repeat (first | exact hG1 | apply Tab.tail)) _ S.hp) ?_
       rintro v75 w ⟨v2, C2, he, hB2, hT⟩; clear E a; intro a E
       rw [← hown] at he; subst he; have S := S.all hT
       refine ⟨S.stab.sub (by first | (simp; done) | (simp +contextual; done) | (simp [*]; done)), ?_⟩
       iterate 3 (refine zmd E ?_; clear E a; intro a E)
       refine zCu rfl rfl (zBf E S rfl rfl dZ rfl rfl rfl ?_); clear E S a; intro a w b10 E S; refine ⟨S.stab.sub (by first | (simp; done) | (simp +contextual; done) | (simp [*]; done)), ?_⟩
       refine zmd E ?_; clear E a; intro a E
       refine zCb rfl rfl (zAq E S rfl rfl rfl rfl (by simp [Value.oneCell']) rfl pZ (by simp) ?_); clear E S a; intro a w E S; simp only [List.take_succ_cons, List.take_zero, List.drop_succ_cons, List.drop_zero, List.cons_append, List.nil_append, List.append_nil, List.length_cons, List.length_nil, Nat.zero_add, Nat.add_zero] at S
       refine zBi ?_
       refine zAk ?_
       have S := (S.front1 (A := [(b3, _)]) pZ).tail
       exact ⟨b10, C2, v2, hB2, S.front4 (A := C2) (B := [(b10, _)]) (C := [(b6, _)]) (D := [(b4, _)]) pZ pZ pZ pZ, E.keep (kE8 rfl rfl rfl rfl rfl rfl rfl rfl)⟩
      ·skip
       refine zCu rfl rfl (zBf E S rfl rfl dZ rfl rfl rfl ?_); clear E S a; intro a w b10 E S; refine ⟨S.stab.sub (by first | (simp; done) | (simp +contextual; done) | (simp [*]; done)), ?_⟩
       refine zBs E rfl rfl rfl dZ rfl Tryz.func18 rfl yZ rfl (zGz k oZ oZ hRb oZ s hok mZ (by repeat (first | exact hG0 | apply Tab.tail)) (by repeat (first | exact hG1 | apply Tab.tail)) _ S.hp) ?_
       rintro v75 w ⟨v2, C2, he, hB2, hT⟩; clear E a; intro a E
       rw [← hown] at he; subst he; have S := S.all hT
       refine ⟨S.stab.sub (by first | (simp; done) | (simp +contextual; done) | (simp [*]; done)), ?_⟩
       iterate 4 (refine zmd E ?_; clear E a; intro a E)
       refine zCb rfl rfl (zAq E S rfl rfl rfl rfl (by simp [Value.oneCell']) rfl pZ (by simp) ?_); clear E S a; intro a w E S; simp only [List.take_succ_cons, List.take_zero, List.drop_succ_cons, List.drop_zero, List.cons_append, List.nil_append, List.append_nil, List.length_cons, List.length_nil, Nat.zero_add, Nat.add_zero] at S
       refine zBi ?_
       refine zAk ?_
       have S := (S.front1 (A := [(b3, _)]) pZ).tail
       exact ⟨b10, C2, v2, hB2, S.front4 (A := C2) (B := [(b10, _)]) (C := [(b6, _)]) (D := [(b4, _)]) pZ pZ pZ pZ, E.keep (kE8 rfl rfl rfl rfl rfl rfl rfl rfl)⟩
     ·clear E S a; intro a w J; obtain ⟨b10, C2, v2, hB2, S, E⟩ := J
      refine zAb hK ?_; clear hK K
      iterate 2 (refine wp_seq_k ?_; intro K hK)
      have hRt := hD.bytes (lo := 0) (hi := 37 + n) (mx := c) oZ oZ oZ
      rw [List.drop_zero, Nat.sub_zero] at hRt
      have hpi := piece_iff (b := b) oZ s
      rw [← hk, ← hbody, ← hn] at hpi
      refine zCn S (.ofL [(0, 0), (1, 0), (2, 0), (3, 0), (4, 0), (5, 0), (6, 0), (7, 0)]) [C2, D] (fun h => h.sub (by first | (simp; done) | (simp +contextual; done) | (simp [*]; done))) yZ yZ ?_
      clear S; intro w S
      refine zmd E ?_; clear E a; intro a E
      refine zm E rfl (fun w h => zBh E rfl rfl rfl rfl rfl hB2.rd (h.at mZ)) ?_; clear E a; intro a E
      iterate 2 (refine zmd E ?_; clear E a; intro a E)
      refine zm E rfl (fun w h => zBc E rfl rfl rfl (by first | exact zHq (x := 37) oZ | exact w_in oZ | exact zBb oZ | exact rfl)) ?_; clear E a; intro a E
      refine zm E rfl (fun w h => zEy (hi := 37 + n) (s := 1) E rfl rfl rfl rfl rfl rfl oZ) ?_; clear E a; intro a E
      refine zm E rfl (fun w h => zBh E rfl rfl rfl rfl rfl hRt (h.at mZ)) ?_; clear E a; intro a E
      refine zmd E ?_; clear E a; intro a E
      refine zBi ?_
      refine zAb hK ?_; clear hK K
      refine zAs E rfl (fun hb => ?_) (fun hb => ?_)
      ·replace hb := Nrm.nrm hb
       have hne : zCt k body s ≠ b.take (37 + n) := (by simpa using hb)
       refine wp_seq_k ?_; intro K hK
       refine zAa ?_
       refine zp E (zBp (cells := [_, _, _, _, _, _, _, _, _, _, _, _, _]) E rfl rfl rfl) ?_; clear E a; intro a E
       refine zp E (zBp (cells := [_, _, _, _]) E rfl rfl rfl) ?_; clear E a; intro a E
       refine zAg rfl (zAq E S rfl rfl rfl rfl (by simp [Value.oneCell']) rfl pZ (by simp) ?_); clear E S a; intro a w E S; simp only [List.take_succ_cons, List.take_zero, List.drop_succ_cons, List.drop_zero, List.cons_append, List.nil_append, List.append_nil, List.length_cons, List.length_nil, Nat.zero_add, Nat.add_zero] at S
       refine zd E ?_; clear E a; intro a E
       refine zAg rfl (zAq E S rfl rfl rfl rfl (by simp [Value.oneCell']) rfl pZ (by simp) ?_); clear E S a; intro a w E S; simp only [List.take_succ_cons, List.take_zero, List.drop_succ_cons, List.drop_zero, List.cons_append, List.nil_append, List.append_nil, List.length_cons, List.length_nil, Nat.zero_add, Nat.add_zero] at S
       refine zd E ?_; clear E a; intro a E
       refine wpList_nil ?_
       refine zAb hK ?_; clear hK K
       refine wp_ret ?_
       refine zAn ?_; clear hK K
       refine zDe E rfl rfl rfl rfl rfl (S.get pZ) rfl (S.get pZ) rfl ?_
       exact ⟨_, rfl, zEl (dec_4 h5 hkb hs2 oZ (by rw [← hn]; exact fun q => hne (hpi.2 q))) ((St.drops0 [_, _, _, _] S).addNil).tr⟩
      ·replace hb := Nrm.nrm hb
       have heq : zCt k body s = b.take (37 + n) := (by simpa using hb)
       refine wp_skip ?_
       refine zAb hK ?_; clear hK K
       refine wp_seq_k ?_; intro K hK
       obtain ⟨pre, hpre⟩ := zKy mD
       have S := S.perm ((((hpre.cons _).cons _).cons _).cons _)
       have hse : zEf (ownD b s) = (b.drop (5 + zBm b)).take 32 := by rw [← hn]; exact hpi.1 heq
       refine zAa ?_
       iterate 2 (refine zd E ?_; clear E a; intro a E)
       refine zp E (zBc E rfl rfl rfl (by first | exact zHq (x := 5) oZ | exact w_in oZ | exact zBb oZ | exact rfl)) ?_; clear E a; intro a E
       refine zp E (zDi (lo := 5) (hi := 5 + n) (s := 1) E rfl rfl rfl rfl rfl rfl rfl oZ oZ oZ) ?_; clear E a; intro a E
       refine zAh E rfl rfl dZ rfl Tryz.func82 rfl yZ rfl (uopen_ret D _ body _ hRb (S.hp.sel sZ) oZ) ?_
       rintro v92 w ⟨p2, B, rfl, hB, hT⟩; clear E a; intro a E
       have S := S.call2 sZ hT
       refine zd E ?_; clear E a; intro a E
       refine wpList_nil ?_
       refine zAb hK ?_; clear hK K
       refine wp_seq_k ?_; intro K hK
       refine zAa ?_
       refine zd E ?_; clear E a; intro a E
       refine zp E (zAw (i := 0) E rfl rfl rfl rfl rfl rfl oZ) ?_; clear E a; intro a E
       refine zp E (zBd E rfl rfl rfl (c0 (hD1 mZ S.stab))) ?_; clear E a; intro a E
       refine zp E (zAo E rfl rfl rfl rfl (zCz oZ)) ?_; clear E a; intro a E
       refine zd E ?_; clear E a; intro a E
       refine zAh E rfl rfl dZ rfl Tryz.func83 rfl yZ rfl (utold_ret k hin p2 ⟨body, 0, 0⟩ B hB _ (S.hp.sel sZ)) ?_
       rintro v98 w ⟨B2, X, pv, kv, dv, he, hB2, hX, hT⟩; clear E a; intro a E
       have hsml := zKg hin ⟨body, 0, 0⟩
       obtain ⟨rec, rd, htk⟩ : ∃ rec rd, zEj k ⟨body, 0, 0⟩ = (rec, rd) := ⟨_, _, rfl⟩
       rw [htk] at he hB2 hX hsml
       simp only [Rec.cells] at he hB2 hX hsml
       subst he
       have S := S.call2 sZ hT
       obtain ⟨a1, c1', rfl⟩ := hX.rd.pr.slice
       obtain ⟨a2, c2', rfl⟩ := hX.rd.kr.slice
       obtain ⟨a3, c3', rfl⟩ := hX.rd.dr.slice
       refine zAg rfl (zBf E S rfl rfl dZ rfl rfl rfl ?_); clear E S a; intro a w b12 E S
       refine zAg rfl (zAq E S rfl rfl rfl rfl (by simp [Value.oneCell']) rfl pZ (by simp) ?_); clear E S a; intro a w E S; simp only [List.take_succ_cons, List.take_zero, List.drop_succ_cons, List.drop_zero, List.cons_append, List.nil_append, List.append_nil, List.length_cons, List.length_nil, Nat.zero_add, Nat.add_zero] at S
       refine wpList_nil ?_
       refine zAb hK ?_; clear hK K
       refine wp_seq_k ?_; intro K hK
       replace E := E.keep (e' := [(4, _), (5, _), (6, _), (7, _), (8, _), (10, _), (11, _), (12, _)]) (kE8 rfl rfl rfl rfl rfl rfl rfl rfl)
       refine zAa ?_
       refine zd E ?_; clear E a; intro a E
       refine zAh E rfl rfl dZ rfl Tryz.func84 rfl yZ rfl (udone_ret p2 rd B2 _ hB2 (S.hp.sel sZ)) ?_
       rintro v100 w ⟨rfl, hT⟩; clear E a; intro a E
       have S := S.call1 sZ hT
       refine zd E ?_; clear E a; intro a E
       refine wpList_nil ?_
       refine zAb hK ?_; clear hK K
       refine wp_seq_k ?_; intro K hK
       refine zAa ?_
       refine zp E (zAz (vs := [_, _, _, _, _, _, _, _, _, _, _, _, _]) E rfl rfl rfl (S.get pZ) rfl rfl) ?_; clear E a; intro a E
       refine zAh E rfl rfl dZ rfl Tryz.func15 rfl yZ rfl (ucheck_ret hX.rd hsml mZ _ S.hp) ?_
       rintro v102 w ⟨rfl, hT⟩; clear E a; intro a E
       have S := S.all hT
       refine zd E ?_; clear E a; intro a E
       refine wpList_nil ?_
       refine zAb hK ?_; clear hK K
       iterate 2 (refine wp_seq_k ?_; intro K hK)
       refine zAa ?_
       iterate 3 (refine zd E ?_; clear E a; intro a E)
       refine zAj E (t := 105) rfl (fun hb105 => ?_) (fun hb105 => ?_)
       ·have hb105n := hb105; replace hb105n := Nrm.nrm hb105n
        iterate 2 (refine zn E hb105 ?_; clear E a; intro a E)
        refine zp E (zAf E rfl rfl hb105 rfl) ?_; clear E a; intro a E
        refine wpList_nil ?_
        refine zAb hK ?_; clear hK K
        refine zBo E rfl rfl ?_
        refine wp_seq_k ?_; intro K hK
        refine zAa ?_
        refine zp E (zBp (cells := [_, _, _, _, _, _, _, _, _, _, _, _, _]) E rfl rfl rfl) ?_; clear E a; intro a E
        refine zp E (zBp (cells := [_, _, _, _]) E rfl rfl rfl) ?_; clear E a; intro a E
        refine zAg rfl (zAq E S rfl rfl rfl rfl (by simp [Value.oneCell']) rfl pZ (by simp) ?_); clear E S a; intro a w E S; simp only [List.take_succ_cons, List.take_zero, List.drop_succ_cons, List.drop_zero, List.cons_append, List.nil_append, List.append_nil, List.length_cons, List.length_nil, Nat.zero_add, Nat.add_zero] at S
        refine zd E ?_; clear E a; intro a E
        refine zAg rfl (zAq E S rfl rfl rfl rfl (by simp [Value.oneCell']) rfl pZ (by simp) ?_); clear E S a; intro a w E S; simp only [List.take_succ_cons, List.take_zero, List.drop_succ_cons, List.drop_zero, List.cons_append, List.nil_append, List.append_nil, List.length_cons, List.length_nil, Nat.zero_add, Nat.add_zero] at S
        refine zd E ?_; clear E a; intro a E
        refine wpList_nil ?_
        refine zAb hK ?_; clear hK K
        refine wp_ret ?_
        refine zAn ?_; clear hK K
        refine zDe E rfl rfl rfl rfl rfl (S.get pZ) rfl (S.get pZ) rfl ?_
        refine ⟨_, rfl, zEl (dec_5 h5 hkb hs2 oZ hse ?_) ?_⟩
        ·rw [← hk, ← hbody, htk]
         first
          | exact .inl (by simp only; omega)
          | exact .inr (ckE_no hb)
        ·exact ((St.drops0 [_, _, _, _, _, _, _] (S.front7 (A := [(b6, _)]) (B := [(b4, _)]) (C := B2) (D := [(b12, _)]) (F := X) (G := C2) (I := [(b10, _)]) pZ pZ pZ pZ pZ pZ pZ)).perm hpre.symm).addNil.tr
       ·have hb105n := hb105; replace hb105n := Nrm.nrm hb105n
        iterate 2 (refine zyd E hb105 ?_; clear E a; intro a E)
        refine zp E (zAe E rfl rfl hb105 rfl) ?_; clear E a; intro a E
        refine wpList_nil ?_
        refine zAb hK ?_; clear hK K
        refine zAs E rfl (fun hb => ?_) (fun hb => ?_)
        ·replace hb := Nrm.nrm hb
         refine wp_seq_k ?_; intro K hK
         refine zAa ?_
         refine zp E (zBp (cells := [_, _, _, _, _, _, _, _, _, _, _, _, _]) E rfl rfl rfl) ?_; clear E a; intro a E
         refine zp E (zBp (cells := [_, _, _, _]) E rfl rfl rfl) ?_; clear E a; intro a E
         refine zAg rfl (zAq E S rfl rfl rfl rfl (by simp [Value.oneCell']) rfl pZ (by simp) ?_); clear E S a; intro a w E S; simp only [List.take_succ_cons, List.take_zero, List.drop_succ_cons, List.drop_zero, List.cons_append, List.nil_append, List.append_nil, List.length_cons, List.length_nil, Nat.zero_add, Nat.add_zero] at S
         refine zd E ?_; clear E a; intro a E
         refine zAg rfl (zAq E S rfl rfl rfl rfl (by simp [Value.oneCell']) rfl pZ (by simp) ?_); clear E S a; intro a w E S; simp only [List.take_succ_cons, List.take_zero, List.drop_succ_cons, List.drop_zero, List.cons_append, List.nil_append, List.append_nil, List.length_cons, List.length_nil, Nat.zero_add, Nat.add_zero] at S
         refine zd E ?_; clear E a; intro a E
         refine wpList_nil ?_
         refine zAb hK ?_; clear hK K
         refine wp_ret ?_
         refine zAn ?_; clear hK K
         refine zDe E rfl rfl rfl rfl rfl (S.get pZ) rfl (S.get pZ) rfl ?_
         refine ⟨_, rfl, zEl (dec_5 h5 hkb hs2 oZ hse ?_) ?_⟩
         ·rw [← hk, ← hbody, htk]
          first
           | exact .inl (by simp only; omega)
           | exact .inr (ckE_no hb)
         ·exact ((St.drops0 [_, _, _, _, _, _, _] (S.front7 (A := [(b6, _)]) (B := [(b4, _)]) (C := B2) (D := [(b12, _)]) (F := X) (G := C2) (I := [(b10, _)]) pZ pZ pZ pZ pZ pZ pZ)).perm hpre.symm).addNil.tr
        ·replace hb := Nrm.nrm hb
         refine wp_skip ?_
         refine zAb hK ?_; clear hK K
         refine wp_seq_k ?_; intro K hK
         refine zCn S (.ofL [(0, 0), (1, 0), (2, 0), (3, 0), (4, 1), (5, 0), (6, 3), (7, 2)]) [[(b12, cel [.int .i64 rec.kind, str rec.name, .int .i64 rec.typ, .int .i64 rec.frm, .int .i64 rec.guid, .int .i64 rec.origin, str rec.snap, .slice a1 rec.props.length c1', .int .i64 rec.object, .int .i64 rec.at_, .int .i64 rec.many, .slice a2 rec.keep.length c2', .slice a3 rec.data.length c3'] 26)], [(b10, cel (fsC own) 29)]] (fun h => h.sub (by first | (simp; done) | (simp +contextual; done) | (simp [*]; done))) yZ yZ ?_
         clear S; intro w S
         refine zm E rfl (fun w h => zAz (vs := [_, _, _, _, _, _, _, _, _, _, _, _, _]) E rfl rfl rfl (h.one mZ) rfl rfl) ?_; clear E a; intro a E
         refine zmd E ?_; clear E a; intro a E
         refine zm E rfl (fun w h => zBc E rfl rfl rfl (by first | exact zHq (x := 37) oZ | exact w_in oZ | exact zBb oZ | exact rfl)) ?_; clear E a; intro a E
         refine zm E rfl (fun w h => zAz (vs := [_, _, _, _]) E rfl rfl rfl (h.one mZ) rfl rfl) ?_; clear E a; intro a E
         refine zCu rfl rfl (zAq E S rfl rfl rfl rfl (by simp [Value.oneCell']) rfl pZ (by simp) ?_); clear E S a; intro a w E S; simp only [List.take_succ_cons, List.take_zero, List.drop_succ_cons, List.drop_zero, List.cons_append, List.nil_append, List.append_nil, List.length_cons, List.length_nil, Nat.zero_add, Nat.add_zero] at S; refine ⟨S.stab.sub (by first | (simp; done) | (simp +contextual; done) | (simp [*]; done)), ?_⟩
         refine zmd E ?_; clear E a; intro a E
         refine zCb rfl rfl (zAq E S rfl rfl rfl rfl (by simp [Value.oneCell']) rfl pZ (by simp) ?_); clear E S a; intro a w E S; simp only [List.take_succ_cons, List.take_zero, List.drop_succ_cons, List.drop_zero, List.cons_append, List.nil_append, List.append_nil, List.length_cons, List.length_nil, Nat.zero_add, Nat.add_zero] at S
         refine zCg E rfl rfl rfl dZ (fun w => zCl E rfl rfl) ?_; clear E a; intro a E
         refine zBi ?_
         refine zAb hK ?_; clear hK K
         refine wp_ret ?_
         refine zDe E rfl rfl rfl rfl rfl (S.get pZ) rfl (S.get pZ) rfl ?_
         refine ⟨_, rfl, ?_⟩
         show decP (decR b s) As w0 _ _
         rw [dec_6 h5 hkb hs2 oZ hse (by rw [← hk, ← hbody, htk]; simp only; omega) (by rw [← hk, ← hbody, htk]; exact ckE_yes hb), hownD, ← hn, ← hk, ← hbody, htk]
         exact ⟨X, _, _, _, rfl, hX, (((St.drops [_, _, _, _, _, _] (S.front7 (A := X) (B := [(b6, _)]) (C := [(b4, _)]) (D := B2) (F := [(b12, _)]) (G := C2) (I := [(b10, _)]) pZ pZ pZ pZ pZ pZ pZ)).perm (hpre.symm.cons _))).tr⟩
end Go.Proofs.YtbogecljkaimdaaGreatDoor
namespace Go.Sl
def Took (s s' : Rdr) (x : List UInt8) : Prop := s'.e = 0 → s.e = 0 ∧ s'.bs = s.bs ∧ (s.at_ ≤ s.bs.length → s'.at_ ≤ s.bs.length ∧ s.bs.drop s.at_ = x ++ s.bs.drop s'.at_)
theorem Took.trans {s s' s'' : Rdr} {x y : List UInt8} (h : Took s s' x) (k : Took s' s'' y) : Took s s'' (x ++ y) := fun he => by
 obtain ⟨k1, k2, k3⟩ := k he
 obtain ⟨h1, h2, h3⟩ := h k1
 refine ⟨h1, k2.trans h2, fun hl => ?_⟩
 obtain ⟨h4, h5⟩ := h3 hl
 rw [h2] at k3
 obtain ⟨k4, k5⟩ := k3 h4
 exact ⟨k4, by rw [h5, k5, List.append_assoc]⟩
theorem Took.refl (s : Rdr) : Took s s [] := fun h => ⟨h, rfl, fun hl => ⟨hl, by simp⟩⟩
end Go.Sl
namespace Go.Proofs.YtbogecljkaimdaaGreatDoor
open Go.Sl
set_option maxRecDepth 10000
end Go.Proofs.YtbogecljkaimdaaGreatDoor
namespace Go.Sl
theorem sl_take {D : zAl} {ad : Option Addr} {c n : Nat} {b : List UInt8} (h : Rd D 1 (.slice ad b.length c) b.length (byt b)) (hc : b.length ≤ c) (hn : n ≤ b.length) :
  ∃ ad2, sliced ad 0 n c 1 = .slice ad2 (b.take n).length c ∧ Rd D 1 (.slice ad2 (b.take n).length c) (b.take n).length (byt (b.take n)) ∧ (b.take n).length ≤ c := by
 have hp := h.piece rfl (lo := 0) (hi := n) (mx := c) (Nat.zero_le _) hn oZ
 have hl : (b.take n).length = n := by rw [List.length_take]; omega
 simp only [Nat.mul_one, List.drop_zero, Nat.sub_zero, zEs] at hp
 have e : sliced ad 0 n c 1 = .slice (if c = 0 then ad else ad.map (·.add (0 * 1))) (b.take n).length c := by rw [hl]; rfl
 exact ⟨_, e, by rw [← e, hl]; exact hp, by omega⟩
end Go.Sl
namespace Go.Proofs.YtbogecljkaimdaaGreatDoor
open Go.Sl
set_option maxRecDepth 10000
def rec1 : Rec := { zCy 6 with many := 5 }
theorem rec1_ck : ckB rec1 = true := by rw [ck6 (.inl rfl), may6]; rfl
theorem rec1_rd (X : zAl) : RecR X rec1 nilv nilv nilv := ⟨Rd.nil _ _, Rd.nil _ _, Rd.nil _ _⟩
theorem rec1_sml : Sml rec1 := ⟨zCj, zCj, zCj, zGv, zCj, zCj⟩
theorem rec0_ck : ckE (zCy 6) = 200 := by
 have : ckB (zCy 6) = false := by rw [ck6 (.inl rfl), may6]; rfl
 simp [ckE, this]
theorem zeroR_rd (X : zAl) (k : Int) : RecR X (zCy k) nilv nilv nilv := ⟨Rd.nil _ _, Rd.nil _ _, Rd.nil _ _⟩
theorem zero_sml (k : Int) : Sml (zCy k) := ⟨zCj, zCj, zCj, zGv, zCj, zCj⟩
set_option maxHeartbeats 1000000 in
theorem awake_ret {As : List zAl} (hG : Tab As 2 shaK) (w0 : World) (H : Hp w0 As) :
  Ret Tryz.prog 9 #[] w0 fun u w' => u = .bool true ∧ Trs w0 w' As As := by
 have S := St.begin H
 have hGA : ∃ G ∈ As, ∃ T fr, ((2 : Nat), Obj.cells (u32s shaK).toArray T fr) ∈ G := hG
 obtain ⟨X, hXm, -⟩ := hGA
 have henc := encR_yes rec1_ck zFx
 have hdec := dec_enc rec1_ck zFx []
 rw [List.append_nil] at hdec
 obtain ⟨pb, hpb⟩ : ∃ pb, pb = zCt rec1.kind (zEx rec1.kind rec1) zFx := ⟨_, rfl⟩
 obtain ⟨own, hown⟩ : ∃ own, own = ownS rec1.kind (zEx rec1.kind rec1) zFx := ⟨_, rfl⟩
 have hpl : pb.length = 41 := by rw [hpb, zGj]; rfl
 have hp9 : pb.take 9 = [6, 4, 0, 0, 0, 5, 0, 0, 0] := by
  have e1 : (zEr rec1.kind (zEx rec1.kind rec1)) = [6, 4, 0, 0, 0, 5, 0, 0, 0] := by rfl
  rw [hpb, zCt, e1]; rfl
 rw [← hpb, ← hown] at henc hdec
 have hd4 : decR (pb.take 4) zFx = zIg 10 := dec_1 (by rw [List.length_take]; omega)
 rw [hpl] at hdec
 refine enter0 86 Tryz.func9 rfl rfl ?_; intro a E
 refine wp_seq_k ?_; intro K hK
 refine zAa ?_
 refine zd E ?_; clear E a; intro a E
 refine wpList_nil ?_
 refine zAb hK ?_; clear hK K
 refine wp_seq_k ?_; intro K hK
 refine zAa ?_
 refine zp E (zBp (cells := [_, _, _, _, _, _, _, _, _, _, _, _, _]) E rfl rfl rfl) ?_; clear E a; intro a E
 refine zp E (zBp (cells := [_, _, _, _]) E rfl rfl rfl) ?_; clear E a; intro a E
 refine zAh E rfl rfl dZ rfl Tryz.func12 rfl yZ rfl (encode_ret (r := rec1) (rec1_rd X) rec1_sml zFx (by repeat (first | exact hXm | apply List.Mem.tail)) (by repeat (first | exact hG | apply Tab.tail)) _ S.hp) ?_
 rintro v18 w h; clear E a; intro a E
 replace h := encP_Q h; rw [henc] at h; obtain ⟨v1, C1, rfl, hB1, hT⟩ := h; have S := S.all hT; simp only at hB1
 obtain ⟨ad1, c1, rfl⟩ := hB1.slice
 have hc1 := hB1.cap_le
 iterate 4 (refine zd E ?_; clear E a; intro a E)
 refine zAg rfl (zBf E S rfl rfl dZ rfl rfl rfl ?_); clear E S a; intro a w b2 E S
 refine zd E ?_; clear E a; intro a E
 refine zAg rfl (zAq E S rfl rfl rfl rfl (by simp [Value.oneCell']) rfl pZ (by simp) ?_); clear E S a; intro a w E S; simp only [List.take_succ_cons, List.take_zero, List.drop_succ_cons, List.drop_zero, List.cons_append, List.nil_append, List.append_nil, List.length_cons, List.length_nil, Nat.zero_add, Nat.add_zero] at S
 refine zd E ?_; clear E a; intro a E
 refine wpList_nil ?_
 refine zAb hK ?_; clear hK K
 refine wp_seq_k ?_; intro K hK
 obtain ⟨a4, he4, hR4, hc4⟩ := sl_take (n := 4) hB1.rd hc1 oZ
 obtain ⟨a9, he9, hR9, hc9⟩ := sl_take (n := 9) hB1.rd hc1 oZ
 have h4l : (pb.take 4).length = 4 := by rw [List.length_take]; omega
 have h9l : (pb.take 9).length = 9 := by rw [List.length_take]; omega
 refine zAa ?_
 iterate 2 (refine zd E ?_; clear E a; intro a E)
 refine wpList_nil ?_
 refine zAb hK ?_; clear hK K
 iterate 2 (refine wp_seq_k ?_; intro K hK)
 refine zAa ?_
 iterate 3 (refine zd E ?_; clear E a; intro a E)
 refine wpList_nil ?_
 refine zAb hK ?_; clear hK K
 refine zBo E rfl ((by rw [hpl]; rfl)) ?_
 refine zAa ?_
 refine zd E ?_; clear E a; intro a E
 refine zp E (zEy (hi := 4) (s := 1) E rfl rfl rfl rfl rfl rfl oZ) ?_; clear E a; intro a E
 rw [he4] at E
 have S := S.front1 (A := C1) pZ
 refine zd E ?_; clear E a; intro a E
 refine wpList_nil ?_
 refine zAb hK ?_; clear hK K
 refine wp_seq_k ?_; intro K hK
 refine zAa ?_
 refine zd E ?_; clear E a; intro a E
 refine zp E (zBp (cells := [_, _, _, _]) E rfl rfl rfl) ?_; clear E a; intro a E
 refine zAh E rfl rfl dZ rfl Tryz.func19 rfl yZ rfl (zIn C1 a4 c1 (pb.take 4) hR4 hc4 oZ zFx _ (by repeat (first | exact hG | apply Tab.tail)) _ S.hp) ?_
 rintro v31 w ⟨X4, p4, k4, d4, rfl, hX4, hT⟩; clear E a; intro a E
 rw [hd4] at E; have S := S.all hT; simp only [zIg, zCy, Rec.cells] at E
 rw [hd4] at hX4
 obtain ⟨q1, n1', rfl⟩ := hX4.rd.pr.slice
 obtain ⟨q2, n2', rfl⟩ := hX4.rd.kr.slice
 obtain ⟨q3, n3', rfl⟩ := hX4.rd.dr.slice
 iterate 5 (refine zd E ?_; clear E a; intro a E)
 refine zAg rfl (zBf E S rfl rfl dZ rfl rfl rfl ?_); clear E S a; intro a w b5 E S
 refine zAg rfl (zBf E S rfl rfl dZ rfl rfl rfl ?_); clear E S a; intro a w b7 E S
 refine zAg rfl (zAq E S rfl rfl rfl rfl (by simp [Value.oneCell']) rfl pZ (by simp) ?_); clear E S a; intro a w E S; simp only [List.take_succ_cons, List.take_zero, List.drop_succ_cons, List.drop_zero, List.cons_append, List.nil_append, List.append_nil, List.length_cons, List.length_nil, Nat.zero_add, Nat.add_zero] at S
 refine zd E ?_; clear E a; intro a E
 refine zAg rfl (zAq E S rfl rfl rfl rfl (by simp [Value.oneCell']) rfl pZ (by simp) ?_); clear E S a; intro a w E S; simp only [List.take_succ_cons, List.take_zero, List.drop_succ_cons, List.drop_zero, List.cons_append, List.nil_append, List.append_nil, List.length_cons, List.length_nil, Nat.zero_add, Nat.add_zero] at S
 refine zd E ?_; clear E a; intro a E
 refine wpList_nil ?_
 refine zAb hK ?_; clear hK K
 refine wp_seq_k ?_; intro K hK
 replace E := E.keep (e' := [(0, _), (1, _), (2, _), (3, _), (8, _)]) (kE5 rfl rfl rfl rfl rfl)
 refine zAa ?_
 refine zd E ?_; clear E a; intro a E
 refine zp E (zBp (cells := [_, _, _, _]) E rfl rfl rfl) ?_; clear E a; intro a E
 have S := S.front1 (A := C1) pZ
 refine zAh E rfl rfl dZ rfl Tryz.func19 rfl yZ rfl (zIn C1 ad1 c1 pb hB1.rd hc1 oZ zFx _ (by repeat (first | exact hG | apply Tab.tail)) _ S.hp) ?_
 rintro v39 w ⟨X5, p5, k5, d5, rfl, hX5, hT⟩; clear E a; intro a E
 rw [hdec] at E; have S := S.all hT; simp only [rec1, zCy, Rec.cells] at E
 rw [hdec] at hX5
 obtain ⟨q4, n4', rfl⟩ := hX5.rd.pr.slice
 obtain ⟨q5, n5', rfl⟩ := hX5.rd.kr.slice
 obtain ⟨q6, n6', rfl⟩ := hX5.rd.dr.slice
 iterate 5 (refine zd E ?_; clear E a; intro a E)
 refine zAg rfl (zBf E S rfl rfl dZ rfl rfl rfl ?_); clear E S a; intro a w b9 E S
 refine zAg rfl (zBf E S rfl rfl dZ rfl rfl rfl ?_); clear E S a; intro a w b11 E S
 refine zAg rfl (zAq E S rfl rfl rfl rfl (by simp [Value.oneCell']) rfl pZ (by simp) ?_); clear E S a; intro a w E S; simp only [List.take_succ_cons, List.take_zero, List.drop_succ_cons, List.drop_zero, List.cons_append, List.nil_append, List.append_nil, List.length_cons, List.length_nil, Nat.zero_add, Nat.add_zero] at S
 refine zd E ?_; clear E a; intro a E
 refine zAg rfl (zAq E S rfl rfl rfl rfl (by simp [Value.oneCell']) rfl pZ (by simp) ?_); clear E S a; intro a w E S; simp only [List.take_succ_cons, List.take_zero, List.drop_succ_cons, List.drop_zero, List.cons_append, List.nil_append, List.append_nil, List.length_cons, List.length_nil, Nat.zero_add, Nat.add_zero] at S
 refine zd E ?_; clear E a; intro a E
 refine wpList_nil ?_
 refine zAb hK ?_; clear hK K
 refine wp_seq_k ?_; intro K hK
 refine zAa ?_
 refine zp E (zBp (cells := [_, _, _, _, _, _, _, _, _, _, _, _, _]) E rfl rfl rfl) ?_; clear E a; intro a E
 refine zAh E rfl rfl dZ rfl Tryz.func11 rfl yZ rfl (zJx (r := zCy 6) (zeroR_rd X 6) (zero_sml 6) (by repeat (first | exact hXm | apply List.Mem.tail)) _ S.hp) ?_
 rintro v45 w ⟨rfl, hT⟩; clear E a; intro a E
 rw [rec0_ck] at E; have S := S.all hT
 refine zd E ?_; clear E a; intro a E
 refine wpList_nil ?_
 refine zAb hK ?_; clear hK K
 refine wp_seq_k ?_; intro K hK
 refine zAa ?_
 iterate 4 (refine zd E ?_; clear E a; intro a E)
 refine zCc E (t := 49) rfl ((by rw [hpl]; rfl)) (fun hb49 => ?_)
 refine zyd E hb49 ?_; clear E a; intro a E
 refine zy E hb49 (zEy (hi := 9) (s := 1) E rfl rfl rfl rfl rfl rfl oZ) ?_; clear E a; intro a E
 rw [he9] at E
 refine zy E hb49 (zBh E rfl rfl rfl rfl rfl hR9 (S.stab.at mZ)) ?_; clear E a; intro a E
 refine zyd E hb49 ?_; clear E a; intro a E
 refine zp E (zAf E rfl rfl hb49 rfl) ?_; clear E a; intro a E
 refine zd E ?_; clear E a; intro a E
 refine zCc E (t := 55) rfl ((decide_eq_true hp9)) (fun hb55 => ?_)
 iterate 2 (refine zyd E hb55 ?_; clear E a; intro a E)
 refine zp E (zAf E rfl rfl hb55 rfl) ?_; clear E a; intro a E
 refine zd E ?_; clear E a; intro a E
 refine zCc E (t := 59) rfl (rfl) (fun hb59 => ?_)
 iterate 2 (refine zyd E hb59 ?_; clear E a; intro a E)
 refine zp E (zAf E rfl rfl hb59 rfl) ?_; clear E a; intro a E
 refine zd E ?_; clear E a; intro a E
 refine wpList_nil ?_
 refine zAb hK ?_; clear hK K
 refine wp_seq_k ?_; intro K hK
 replace E := E.keep (e' := [(0, _), (2, _), (9, _), (10, _), (11, _), (12, _), (13, _), (14, _)]) (kE8 rfl rfl rfl rfl rfl rfl rfl rfl)
 refine zAa ?_
 iterate 2 (refine zd E ?_; clear E a; intro a E)
 refine zCc E (t := 64) rfl (rfl) (fun hb64 => ?_)
 refine zy E hb64 (by first | exact zAc (q := 10) E rfl rfl rfl | exact zAd (q := 10) E rfl rfl rfl) ?_; clear E a; intro a E
 iterate 2 (refine zyd E hb64 ?_; clear E a; intro a E)
 refine zp E (zAf E rfl rfl hb64 rfl) ?_; clear E a; intro a E
 refine zd E ?_; clear E a; intro a E
 refine zCc E (t := 69) rfl (rfl) (fun hb69 => ?_)
 iterate 2 (refine zyd E hb69 ?_; clear E a; intro a E)
 refine zp E (zAf E rfl rfl hb69 rfl) ?_; clear E a; intro a E
 refine zd E ?_; clear E a; intro a E
 refine zCc E (t := 73) rfl (rfl) (fun hb73 => ?_)
 iterate 2 (refine zy E hb73 (zAz (vs := [_, _, _, _]) E rfl rfl rfl (S.get pZ) rfl rfl) ?_; clear E a; intro a E)
 refine zy E hb73 (by first | exact zJr E rfl rfl rfl rfl yZ yZ rfl rfl rfl | exact zIs E rfl rfl rfl rfl yZ yZ rfl) ?_; clear E a; intro a E
 refine zp E (zAf E rfl rfl hb73 rfl) ?_; clear E a; intro a E
 refine zd E ?_; clear E a; intro a E
 refine zCc E (t := 78) rfl ((by simp)) (fun hb78 => ?_)
 iterate 2 (refine zyd E hb78 ?_; clear E a; intro a E)
 refine zp E (zAf E rfl rfl hb78 rfl) ?_; clear E a; intro a E
 refine zd E ?_; clear E a; intro a E
 refine zCc E (t := 82) rfl (rfl) (fun hb82 => ?_)
 iterate 2 (refine zyd E hb82 ?_; clear E a; intro a E)
 refine zp E (zAf E rfl rfl hb82 rfl) ?_; clear E a; intro a E
 refine zd E ?_; clear E a; intro a E
 refine wpList_nil ?_
 refine zAb hK ?_; clear hK K
 refine wp_ret ?_
 refine ret1 E rfl rfl ?_
 exact ⟨_, rfl, rfl, by repeat (first | exact S.tr | replace S := S.tail)⟩
end Go.Proofs.YtbogecljkaimdaaGreatDoor
namespace Go.Proofs.YtbogecljkaimdaaGreatDoor
open Go.Sl
set_option maxRecDepth 10000
theorem spoil_ret {D : zAl} {r : Rec} {pv kv dv : Value} (hD : zIx D r pv kv dv) (hs : Sml r) (As : List zAl) (w0 : World) (H : Hp w0 (D :: As)) :
  Ret Tryz.prog 14 #[.agg (r.cells pv kv dv).toArray] w0 fun _ w' => ∃ D', Trs w0 w' (D :: As) (D' :: As) := by
 obtain ⟨D1, D2, D3, rfl, hB1, hB2, hB3⟩ := hD
 have h1 := hs.props
 have h2 := hs.keep
 have h3 := hs.data
 have S := (St.begin H).split.perm2.split.perm (Bs := D1 :: D2 :: D3 :: As) (by
  exact (zDy (zDy (zJf _ _))).symm.symm)
 obtain ⟨ad1, c1, rfl⟩ := hB1.slice
 obtain ⟨ad2, c2, rfl⟩ := hB2.slice
 obtain ⟨ad3, c3, rfl⟩ := hB3.slice
 refine zCd 39 Tryz.func14 rfl rfl dZ ?_; intro a E
 refine wp_seq_k ?_; intro K hK
 refine zAa ?_
 refine zAg rfl (zBx E S rfl rfl dZ rfl rfl ?_); clear E S a; intro a w b1 E S
 refine wpList_nil ?_
 refine zAb hK ?_; clear hK K
 iterate 2 (refine wp_seq_k ?_; intro K hK)
 refine zAa ?_
 refine zd E ?_; clear E a; intro a E
 refine wpList_nil ?_
 refine zAb hK ?_; clear hK K
 refine wp_block ?_
 refine wp_loop_ghost (fun (m : Nat) (a : Act) (w' : World) => ∃ (i : Nat) (C1 : zAl) (xs : List Value), m = r.props.length - i ∧ i ≤ r.props.length ∧ Buf C1 70 2 (.slice ad1 r.props.length c1) r.props.length xs ∧ St w0 ((D1 ++ (D2 ++ D3)) :: As) w' (C1 :: [(b1, cel (r.cells (.slice ad1 r.props.length c1) (.slice ad2 r.keep.length c2) (.slice ad3 r.data.length c3)) 26)] :: D2 :: D3 :: As) ∧ Fr a 39 [(1, ptr b1), (2, .int .i64 i)]) (r.props.length) ?_ ?_
 ·exact ⟨0, D1, _, by omega, by omega, hB1, S.perm2, E.keep (kE2 rfl rfl)⟩
 clear E; clear a; (try clear S); rintro m a w ⟨i, C1, xs, rfl, hi, hC1, S, E⟩
 iterate 2 (refine wp_seq_k ?_; intro K hK)
 refine zAa ?_
 refine zd E ?_; clear E a; intro a E
 refine zp E (by first | exact zAc (q := 7) E rfl rfl rfl | exact zAd (q := 7) E rfl rfl rfl) ?_; clear E a; intro a E
 iterate 3 (refine zd E ?_; clear E a; intro a E)
 refine wpList_nil ?_
 refine zAb hK ?_; clear hK K
 refine zAs E rfl (fun hb => ?_) (fun hb => ?_)
 ·replace hb := Nrm.nrm hb
  refine wp_skip ?_
  refine zAb hK ?_; clear hK K
  refine wp_seq_k ?_; intro K hK
  refine wp_block ?_
  have hil : i < r.props.length := by omega
  have hxl := hC1.1
  obtain ⟨g, rfl⟩ := hC1.addr oZ
  refine zAa ?_
  refine zp E (by first | exact zAc (q := 7) E rfl rfl rfl | exact zAd (q := 7) E rfl rfl rfl) ?_; clear E a; intro a E
  iterate 2 (refine zd E ?_; clear E a; intro a E)
  refine zp E (zBe (s := 2) (i := i) E rfl rfl rfl rfl rfl rfl oZ) ?_; clear E a; intro a E
  refine zp E (by first | exact zAc (q := 0) E rfl rfl rfl | exact zAd (q := 0) E rfl rfl rfl) ?_; clear E a; intro a E
  refine zAg rfl (zJb E S rfl rfl rfl rfl rfl rfl hC1 pZ (i := i * 2) oZ oZ ?_); clear E S a; intro a w Cs5 E hBs5 S
  refine wpList_nil ?_
  refine zAr ?_
  refine zAb hK ?_; clear hK K
  refine zAa ?_
  refine zd E ?_; clear E a; intro a E
  refine zp E (zBc E rfl rfl rfl (by first | exact zBq (y := 1) oZ | exact w_in oZ | exact zBb oZ | exact rfl)) ?_; clear E a; intro a E
  refine zd E ?_; clear E a; intro a E
  refine wpList_nil ?_
  refine zAy ?_
  exact ⟨_, by omega, i + 1, Cs5, _, rfl, by omega, hBs5, S, E.keep (kE2 rfl rfl)⟩
 ·replace hb := Nrm.nrm hb
  refine wp_exit ?_
  refine zAp ?_; clear hK K
  refine zAp ?_
  refine zBr ?_
  refine zAb hK ?_; clear hK K
  iterate 2 (refine wp_seq_k ?_; intro K hK)
  refine zAa ?_
  refine zd E ?_; clear E a; intro a E
  refine wpList_nil ?_
  refine zAb hK ?_; clear hK K
  refine wp_block ?_
  refine wp_loop_ghost (fun (m : Nat) (a : Act) (w' : World) => ∃ (i : Nat) (C2 : zAl) (xs : List Value), m = r.keep.length - i ∧ i ≤ r.keep.length ∧ Buf C2 3 1 (.slice ad2 r.keep.length c2) r.keep.length xs ∧ St w0 ((D1 ++ (D2 ++ D3)) :: As) w' (C2 :: [(b1, cel (r.cells (.slice ad1 r.props.length c1) (.slice ad2 r.keep.length c2) (.slice ad3 r.data.length c3)) 26)] :: C1 :: D3 :: As) ∧ Fr a 39 [(1, ptr b1), (3, .int .i64 i)]) (r.keep.length) ?_ ?_
  ·exact ⟨0, D2, _, by omega, by omega, hB2, S.front3 (A := D2) (B := [(b1, _)]) (C := C1) pZ pZ pZ, E.keep (kE2 rfl rfl)⟩
  clear E; clear a; (try clear S); rintro m a w ⟨j, C2, ys, rfl, hj, hC2, S, E⟩
  iterate 2 (refine wp_seq_k ?_; intro K hK)
  refine zAa ?_
  refine zd E ?_; clear E a; intro a E
  refine zp E (by first | exact zAc (q := 11) E rfl rfl rfl | exact zAd (q := 11) E rfl rfl rfl) ?_; clear E a; intro a E
  iterate 3 (refine zd E ?_; clear E a; intro a E)
  refine wpList_nil ?_
  refine zAb hK ?_; clear hK K
  refine zAs E rfl (fun hb => ?_) (fun hb => ?_)
  ·replace hb := Nrm.nrm hb
   refine wp_skip ?_
   refine zAb hK ?_; clear hK K
   refine wp_seq_k ?_; intro K hK
   refine wp_block ?_
   have hjl : j < r.keep.length := by omega
   have hyl := hC2.1
   obtain ⟨g2, rfl⟩ := hC2.addr oZ
   refine zAa ?_
   refine zp E (by first | exact zAc (q := 11) E rfl rfl rfl | exact zAd (q := 11) E rfl rfl rfl) ?_; clear E a; intro a E
   iterate 2 (refine zd E ?_; clear E a; intro a E)
   refine zp E (by first | exact zAw E rfl rfl rfl rfl rfl rfl oZ | exact zBe E rfl rfl rfl rfl rfl rfl oZ | exact zAu E rfl rfl rfl rfl rfl rfl oZ) ?_; clear E a; intro a E
   refine zAg rfl (zJb E S rfl rfl rfl rfl rfl rfl hC2 pZ (i := j) oZ oZ ?_); clear E S a; intro a w Cs4 E hBs4 S
   refine wpList_nil ?_
   refine zAr ?_
   refine zAb hK ?_; clear hK K
   refine zAa ?_
   refine zd E ?_; clear E a; intro a E
   refine zp E (zBc E rfl rfl rfl (by first | exact zBq (y := 1) oZ | exact w_in oZ | exact zBb oZ | exact rfl)) ?_; clear E a; intro a E
   refine zd E ?_; clear E a; intro a E
   refine wpList_nil ?_
   refine zAy ?_
   exact ⟨_, by omega, j + 1, Cs4, _, rfl, by omega, hBs4, S, E.keep (kE2 rfl rfl)⟩
  ·replace hb := Nrm.nrm hb
   refine wp_exit ?_
   refine zAp ?_; clear hK K
   refine zAp ?_
   refine zBr ?_
   refine zAb hK ?_; clear hK K
   refine wp_seq_k ?_; intro K hK
   refine zAa ?_
   refine zd E ?_; clear E a; intro a E
   refine wpList_nil ?_
   refine zAb hK ?_; clear hK K
   refine wp_block ?_
   refine wp_loop_ghost (fun (m : Nat) (a : Act) (w' : World) => ∃ (i : Nat) (C3 : zAl) (xs : List Value), m = r.data.length - i ∧ i ≤ r.data.length ∧ Buf C3 5 1 (.slice ad3 r.data.length c3) r.data.length xs ∧ St w0 ((D1 ++ (D2 ++ D3)) :: As) w' (C3 :: [(b1, cel (r.cells (.slice ad1 r.props.length c1) (.slice ad2 r.keep.length c2) (.slice ad3 r.data.length c3)) 26)] :: C1 :: C2 :: As) ∧ Fr a 39 [(1, ptr b1), (4, .int .i64 i)]) (r.data.length) ?_ ?_
   ·exact ⟨0, D3, _, by omega, by omega, hB3, S.front4 (A := D3) (B := [(b1, _)]) (C := C1) (D := C2) pZ pZ pZ pZ, E.keep (kE2 rfl rfl)⟩
   clear E; clear a; (try clear S); rintro m a w ⟨q, C3, zs, rfl, hq, hC3, S, E⟩
   iterate 2 (refine wp_seq_k ?_; intro K hK)
   refine zAa ?_
   refine zd E ?_; clear E a; intro a E
   refine zp E (by first | exact zAc (q := 12) E rfl rfl rfl | exact zAd (q := 12) E rfl rfl rfl) ?_; clear E a; intro a E
   iterate 3 (refine zd E ?_; clear E a; intro a E)
   refine wpList_nil ?_
   refine zAb hK ?_; clear hK K
   refine zAs E rfl (fun hb => ?_) (fun hb => ?_)
   ·replace hb := Nrm.nrm hb
    refine wp_skip ?_
    refine zAb hK ?_; clear hK K
    refine wp_seq_k ?_; intro K hK
    refine wp_block ?_
    have hql : q < r.data.length := by omega
    have hzl := hC3.1
    obtain ⟨g3, rfl⟩ := hC3.addr oZ
    refine zAa ?_
    refine zp E (by first | exact zAc (q := 12) E rfl rfl rfl | exact zAd (q := 12) E rfl rfl rfl) ?_; clear E a; intro a E
    iterate 2 (refine zd E ?_; clear E a; intro a E)
    refine zp E (by first | exact zAw E rfl rfl rfl rfl rfl rfl oZ | exact zBe E rfl rfl rfl rfl rfl rfl oZ | exact zAu E rfl rfl rfl rfl rfl rfl oZ) ?_; clear E a; intro a E
    refine zAg rfl (zJb E S rfl rfl rfl rfl rfl rfl hC3 pZ (i := q) oZ oZ ?_); clear E S a; intro a w Cs4 E hBs4 S
    refine wpList_nil ?_
    refine zAr ?_
    refine zAb hK ?_; clear hK K
    refine zAa ?_
    refine zd E ?_; clear E a; intro a E
    refine zp E (zBc E rfl rfl rfl (by first | exact zBq (y := 1) oZ | exact w_in oZ | exact zBb oZ | exact rfl)) ?_; clear E a; intro a E
    refine zd E ?_; clear E a; intro a E
    refine wpList_nil ?_
    refine zAy ?_
    exact ⟨_, by omega, q + 1, Cs4, _, rfl, by omega, hBs4, S, E.keep (kE2 rfl rfl)⟩
   ·replace hb := Nrm.nrm hb
    refine wp_exit ?_
    refine zAp ?_; clear hK K
    refine zAp ?_
    refine zBr ?_
    refine end0 E rfl ?_
    exact ⟨_, rfl, C3, (St.drops [_, _, _] S).tr⟩
end Go.Proofs.YtbogecljkaimdaaGreatDoor
namespace Go.Proofs.YtbogecljkaimdaaGreatDoor
open Go.Sl
set_option maxRecDepth 10000
theorem decode2_ret (D : zAl) (ad : Option Addr) (c : Nat) (b : List UInt8) (hD : Rd D 1 (.slice ad b.length c) b.length (byt b)) (hcap : b.length ≤ c) (hbl : b.length ≤ 140737488351300) (s : Fs) {As : List zAl} (mD : D ∈ As) (hG : Tab As 2 shaK) (w0 : World) (H : Hp w0 As) :
  Ret Tryz.prog 19 #[.slice ad b.length c, s.agg] w0 (decP (decR b s) As w0) := by
 obtain ⟨pre, hpre⟩ := zKy mD
 refine (zIn D ad c b hD hcap hbl s pre (hG.sub fun Q hQ => hpre.mem_iff.1 hQ) w0 (St.begin H |>.perm hpre).hp).mono fun u w' ⟨X, pv, kv, dv, he, hX, hT⟩ => ⟨X, pv, kv, dv, he, hX, ?_⟩
 exact (((St.begin H).perm hpre).all hT |>.perm (hpre.symm.cons X)).tr
structure Lay4 (As : List zAl) : Prop where
 r : Tab As 2 shaK
 f : Tab As 0 sha0.l
 g : Tab As 1 shaK
end Go.Proofs.YtbogecljkaimdaaGreatDoor
namespace Go.Proofs.YtbogecljkaimdaaGreatDoor
open Go.Sl
set_option maxRecDepth 10000
set_option maxHeartbeats 1000000 in
theorem zKk (D : zAl) (ad : Option Addr) (c : Nat) (b : List UInt8) (hD : Rd D 1 (.slice ad b.length c) b.length (byt b)) (hcap : b.length ≤ c) (hbl : b.length ≤ 140737488351300) (s : Fs) (hok : s.Ok) {As : List zAl} (mD : D ∈ As) (hL : Lay4 As) (w0 : World) (H : Hp w0 As) :
  Ret Tryz.prog 17 #[.slice ad b.length c, s.agg] w0 fun u w' => u = .bool true ∧ Trs w0 w' As As := by
 have S := St.begin H
 have hG := hL.r
 have hG0 := hL.f
 have hG1 := hL.g
 have hsm := dec_sml b s
 obtain ⟨x, hx⟩ : ∃ x, x = decR b s := ⟨_, rfl⟩
 rw [← hx] at hsm
 obtain ⟨e, r, n, o⟩ := x
 simp only at hsm
 refine zBt 74 Tryz.func17 rfl rfl dZ ?_; intro a E
 refine wp_seq_k ?_; intro K hK
 refine zAa ?_
 refine zAg rfl (zBx E S rfl rfl dZ rfl rfl ?_); clear E S a; intro a w b3 E S
 refine zd E ?_; clear E a; intro a E
 refine wpList_nil ?_
 refine zAb hK ?_; clear hK K
 refine wp_seq_k ?_; intro K hK
 have S := S.addNil
 refine zAa ?_
 refine zd E ?_; clear E a; intro a E
 refine wpList_nil ?_
 refine zAb hK ?_; clear hK K
 refine wp_seq_k ?_; intro K hK
 refine zAa ?_
 iterate 2 (refine zd E ?_; clear E a; intro a E)
 refine zAg rfl (zBu (by' := 1) E S rfl rfl dZ rfl rfl (Buf.nil 5 1) pZ (hD.src (S.stab.at mZ) rfl) rfl rfl rfl rfl rfl rfl (by simp only [maxLen]; omega) oZ ?_); clear E S a; intro a w v19 C19 E S hB19
 rw [Nat.zero_add, List.nil_append] at hB19
 obtain ⟨a5, c5, rfl⟩ := hB19.slice
 have hc5 := hB19.cap_le
 refine zd E ?_; clear E a; intro a E
 refine wpList_nil ?_
 refine zAb hK ?_; clear hK K
 refine wp_seq_k ?_; intro K hK
 refine zAa ?_
 refine zd E ?_; clear E a; intro a E
 refine zp E (zAz (vs := [_, _, _, _]) E rfl rfl rfl (S.get pZ) rfl rfl) ?_; clear E a; intro a E
 refine zAh E rfl rfl dZ rfl Tryz.func19 rfl yZ rfl (decode2_ret C19 a5 c5 b hB19.rd hc5 hbl s mZ (by repeat (first | exact hG | apply Tab.tail)) _ S.hp) ?_
 rintro v23 w ⟨X, p1, k1, d1, he, hX, hT⟩; clear E a; intro a E
 rw [← hx] at he hX; simp only [Rec.cells] at he hX; subst he; have S := S.all hT
 have hXR := hX.rd
 obtain ⟨q1, n1', e1⟩ := hXR.pr.slice
 obtain ⟨q2, n2', e2⟩ := hXR.kr.slice
 obtain ⟨q3, n3', e3⟩ := hXR.dr.slice
 subst e1 e2 e3
 iterate 5 (refine zd E ?_; clear E a; intro a E)
 refine zAg rfl (zBf E S rfl rfl dZ rfl rfl rfl ?_); clear E S a; intro a w b6 E S
 refine zAg rfl (zBf E S rfl rfl dZ rfl rfl rfl ?_); clear E S a; intro a w b8 E S
 refine zAg rfl (zAq E S rfl rfl rfl rfl (by simp [Value.oneCell']) rfl pZ (by simp) ?_); clear E S a; intro a w E S; simp only [List.take_succ_cons, List.take_zero, List.drop_succ_cons, List.drop_zero, List.cons_append, List.nil_append, List.append_nil, List.length_cons, List.length_nil, Nat.zero_add, Nat.add_zero] at S
 refine zd E ?_; clear E a; intro a E
 refine zAg rfl (zAq E S rfl rfl rfl rfl (by simp [Value.oneCell']) rfl pZ (by simp) ?_); clear E S a; intro a w E S; simp only [List.take_succ_cons, List.take_zero, List.drop_succ_cons, List.drop_zero, List.cons_append, List.nil_append, List.append_nil, List.length_cons, List.length_nil, Nat.zero_add, Nat.add_zero] at S
 refine zd E ?_; clear E a; intro a E
 refine wpList_nil ?_
 refine zAb hK ?_; clear hK K
 refine wp_seq_k ?_; intro K hK
 refine zAa ?_
 refine zd E ?_; clear E a; intro a E
 refine zp E (zBh E rfl rfl rfl rfl rfl hB19.rd (S.stab.at mZ)) ?_; clear E a; intro a E
 refine zd E ?_; clear E a; intro a E
 refine zp E (zBh E rfl rfl rfl rfl rfl hD (S.stab.at mZ)) ?_; clear E a; intro a E
 iterate 2 (refine zd E ?_; clear E a; intro a E)
 refine wpList_nil ?_
 refine zAb hK ?_; clear hK K
 iterate 2 (refine wp_seq_k ?_; intro K hK)
 replace E := E.keep (e' := [(0, _), (3, _), (4, _), (5, _), (6, _), (7, _), (8, _), (9, _), (10, _)]) (kE9 rfl rfl rfl rfl rfl rfl rfl rfl rfl)
 rw [decide_eq_true (rfl : b = b)] at E
 refine zAa ?_
 refine zd E ?_; clear E a; intro a E
 refine wpList_nil ?_
 refine zAb hK ?_; clear hK K
 refine wp_block ?_
 refine wp_loop_ghost (fun (m : Nat) (a : Act) (w' : World) => ∃ (i : Nat) (C : zAl) (xs : List Value), m = b.length - i ∧ i ≤ b.length ∧ Buf C 5 1 (.slice a5 b.length c5) b.length xs ∧ St w0 As w' (C :: X :: [(b6, cel (r.cells (.slice q1 r.props.length n1') (.slice q2 r.keep.length n2') (.slice q3 r.data.length n3')) 26)] :: [(b8, cel (fsC o) 29)] :: [(b3, cel (fsC s) 29)] :: As) ∧ Fr a 74 [(0, .slice ad b.length c), (3, ptr b3), (4, .bool false), (5, .slice a5 b.length c5), (6, ptr b6), (7, .int .i64 n), (8, ptr b8), (9, .int .i64 e), (10, .bool true), (11, .int .i64 i)]) (b.length) ?_ ?_
 ·exact ⟨0, C19, _, by omega, by omega, hB19, S.front5 (A := C19) (B := X) (C := [(b6, _)]) (D := [(b8, _)]) (F := [(b3, _)]) pZ pZ pZ pZ pZ, E.keep (kE10 rfl rfl rfl rfl rfl rfl rfl rfl rfl rfl)⟩
 clear E; clear a; (try clear S); rintro m a w ⟨i, C, xs, rfl, hi, hC, S, E⟩
 iterate 2 (refine wp_seq_k ?_; intro K hK)
 refine zAa ?_
 iterate 4 (refine zd E ?_; clear E a; intro a E)
 refine wpList_nil ?_
 refine zAb hK ?_; clear hK K
 refine zAs E rfl (fun hb => ?_) (fun hb => ?_)
 ·replace hb := Nrm.nrm hb
  refine wp_skip ?_
  refine zAb hK ?_; clear hK K
  refine wp_seq_k ?_; intro K hK
  refine wp_block ?_
  have hil : i < b.length := by omega
  have hxl := hC.1
  obtain ⟨g, rfl⟩ := hC.addr oZ
  refine zAa ?_
  iterate 2 (refine zd E ?_; clear E a; intro a E)
  refine zp E (by first | exact zAw E rfl rfl rfl rfl rfl rfl oZ | exact zBe E rfl rfl rfl rfl rfl rfl oZ | exact zAu E rfl rfl rfl rfl rfl rfl oZ) ?_; clear E a; intro a E
  refine zAg rfl (zJb E S rfl rfl rfl rfl rfl rfl hC pZ (i := i) oZ oZ ?_); clear E S a; intro a w Cs3 E hBs3 S
  refine wpList_nil ?_
  refine zAr ?_
  refine zAb hK ?_; clear hK K
  refine zAa ?_
  refine zd E ?_; clear E a; intro a E
  refine zp E (zBc E rfl rfl rfl (by first | exact zBq (y := 1) oZ | exact w_in oZ | exact zBb oZ | exact rfl)) ?_; clear E a; intro a E
  refine zd E ?_; clear E a; intro a E
  refine wpList_nil ?_
  refine zAy ?_
  exact ⟨_, by omega, i + 1, Cs3, _, rfl, by omega, hBs3, S, E.keep (kE10 rfl rfl rfl rfl rfl rfl rfl rfl rfl rfl)⟩
 ·replace hb := Nrm.nrm hb
  refine wp_exit ?_
  refine zAp ?_; clear hK K
  refine zAp ?_
  refine zBr ?_
  refine zAb hK ?_; clear hK K
  refine wp_seq_k ?_; intro K hK
  refine zAa ?_
  refine zd E ?_; clear E a; intro a E
  refine zp E (zAz (vs := [_, _, _, _]) E rfl rfl rfl (S.get pZ) rfl rfl) ?_; clear E a; intro a E
  refine zAh E rfl rfl dZ rfl Tryz.func38 rfl yZ rfl (udecode_ret D ad c b hD hcap hbl s hok mZ (by repeat (first | exact hG0 | apply Tab.tail)) (by repeat (first | exact hG1 | apply Tab.tail)) _ S.hp) ?_
  rintro v45 w ⟨Y, p2, k2, d2, he, hY, hT⟩; clear E a; intro a E
  rw [← hx] at he hY; simp only [Rec.cells] at he hY; subst he; have S := S.all hT
  have hYR := hY.rd
  obtain ⟨t1, m1', e1⟩ := hYR.pr.slice
  obtain ⟨t2, m2', e2⟩ := hYR.kr.slice
  obtain ⟨t3, m3', e3⟩ := hYR.dr.slice
  subst e1 e2 e3
  iterate 5 (refine zd E ?_; clear E a; intro a E)
  refine zAg rfl (zBf E S rfl rfl dZ rfl rfl rfl ?_); clear E S a; intro a w b12 E S
  refine zAg rfl (zBf E S rfl rfl dZ rfl rfl rfl ?_); clear E S a; intro a w b14 E S
  refine zAg rfl (zAq E S rfl rfl rfl rfl (by simp [Value.oneCell']) rfl pZ (by simp) ?_); clear E S a; intro a w E S; simp only [List.take_succ_cons, List.take_zero, List.drop_succ_cons, List.drop_zero, List.cons_append, List.nil_append, List.append_nil, List.length_cons, List.length_nil, Nat.zero_add, Nat.add_zero] at S
  refine zd E ?_; clear E a; intro a E
  refine zAg rfl (zAq E S rfl rfl rfl rfl (by simp [Value.oneCell']) rfl pZ (by simp) ?_); clear E S a; intro a w E S; simp only [List.take_succ_cons, List.take_zero, List.drop_succ_cons, List.drop_zero, List.cons_append, List.nil_append, List.append_nil, List.length_cons, List.length_nil, Nat.zero_add, Nat.add_zero] at S
  refine zd E ?_; clear E a; intro a E
  refine wpList_nil ?_
  refine zAb hK ?_; clear hK K
  refine wp_seq_k ?_; intro K hK
  replace E := E.keep (e' := [(4, _), (6, _), (7, _), (8, _), (9, _), (10, _), (12, _), (13, _), (14, _), (15, _)]) (kE10 rfl rfl rfl rfl rfl rfl rfl rfl rfl rfl)
  refine zAa ?_
  iterate 2 (refine zp E (zAz (vs := [_, _, _, _, _, _, _, _, _, _, _, _, _]) E rfl rfl rfl (S.get pZ) rfl rfl) ?_; clear E a; intro a E)
  refine zAh E rfl rfl dZ rfl Tryz.func13 rfl yZ rfl (same_ret hXR hYR hsm _ mZ mZ _ S.hp) ?_
  rintro v52 w ⟨z, rfl, hz, hT⟩; clear E a; intro a E
  obtain rfl := hz.2 rfl; have S := S.all hT; have S := S.front1 (A := X) pZ
  refine zd E ?_; clear E a; intro a E
  refine wpList_nil ?_
  refine zAb hK ?_; clear hK K
  refine wp_seq_k ?_; intro K hK
  refine zAa ?_
  refine zp E (zAz (vs := [_, _, _, _, _, _, _, _, _, _, _, _, _]) E rfl rfl rfl (S.get pZ) rfl rfl) ?_; clear E a; intro a E
  refine zAh E rfl rfl dZ rfl Tryz.func14 rfl yZ rfl (spoil_ret hX hsm _ _ S.hp) ?_
  rintro v54 w ⟨D', hT⟩; clear E a; intro a E
  have S := S.all hT
  refine wpList_nil ?_
  refine zAb hK ?_; clear hK K
  refine wp_seq_k ?_; intro K hK
  refine zAa ?_
  iterate 2 (refine zd E ?_; clear E a; intro a E)
  refine zCc E (t := 56) rfl (rfl) (fun hb56 => ?_)
  refine zyd E hb56 ?_; clear E a; intro a E
  refine zp E (zAf E rfl rfl hb56 rfl) ?_; clear E a; intro a E
  refine zd E ?_; clear E a; intro a E
  refine zCc E (t := 59) rfl (rfl) (fun hb59 => ?_)
  iterate 3 (refine zyd E hb59 ?_; clear E a; intro a E)
  refine zp E (zAf E rfl rfl hb59 rfl) ?_; clear E a; intro a E
  refine zd E ?_; clear E a; intro a E
  refine zCc E (t := 64) rfl ((by simp)) (fun hb64 => ?_)
  iterate 2 (refine zy E hb64 (zAz (vs := [_, _, _, _]) E rfl rfl rfl (S.get pZ) rfl rfl) ?_; clear E a; intro a E)
  refine zy E hb64 (by first | exact zJr E rfl rfl rfl rfl yZ yZ rfl rfl rfl | exact zIs E rfl rfl rfl rfl yZ yZ rfl) ?_; clear E a; intro a E
  refine zp E (zAf E rfl rfl hb64 rfl) ?_; clear E a; intro a E
  refine zd E ?_; clear E a; intro a E
  refine zCc E (t := 69) rfl ((by simp)) (fun hb69 => ?_)
  iterate 3 (refine zyd E hb69 ?_; clear E a; intro a E)
  refine zp E (zAf E rfl rfl hb69 rfl) ?_; clear E a; intro a E
  refine zd E ?_; clear E a; intro a E
  refine wpList_nil ?_
  refine zAb hK ?_; clear hK K
  refine wp_ret ?_
  refine ret1 E rfl rfl ?_
  exact ⟨_, rfl, by simp, by repeat (first | exact S.tr | replace S := S.tail)⟩
theorem w_rem9 {z : Int} (h0 : 0 ≤ z) : z.tmod 9 = z % 9 := Int.tmod_eq_emod_of_nonneg h0
set_option maxHeartbeats 1000000 in
theorem readsL_walk (O : zAl) (hL : Lay4 [O]) (ad : Option Addr) (c : Nat) (b : List UInt8) (hD : Rd O 1 (.slice ad b.length c) b.length (byt b)) (hcap : b.length ≤ c) (hbl : b.length ≤ 140737488351250) (s : Fs) (hok : s.Ok) (k : Int) (hk : -9223372036854775808 ≤ k ∧ k ≤ 9223372036854775807) (w0 : World) (H : Hp w0 [O]) :
  Ret Tryz.prog 4 #[.slice ad b.length c, s.agg, .int .i64 k] w0 fun u w' => u = .bool true ∧ Trs w0 w' [O] [O] := by
 have S := St.begin H
 have hG := hL.r
 have hG0 := hL.f
 have hG1 := hL.g
 have hLt : ∀ {A : zAl} {As : List zAl}, Lay4 As → Lay4 (A :: As) := fun h => ⟨h.r.tail, h.f.tail, h.g.tail⟩
 refine zEz 50 Tryz.func4 rfl rfl dZ ?_; intro a E
 refine wp_seq_k ?_; intro K hK
 refine zAa ?_
 refine zAg rfl (zBx E S rfl rfl dZ rfl rfl ?_); clear E S a; intro a w b4 E S
 refine zd E ?_; clear E a; intro a E
 refine wpList_nil ?_
 refine zAb hK ?_; clear hK K
 refine wp_seq_k ?_; intro K hK
 refine zAa ?_
 refine zAh E rfl rfl dZ rfl Tryz.func9 rfl yZ rfl (awake_ret (by repeat (first | exact hG | apply Tab.tail)) _ S.hp) ?_
 rintro v14 w ⟨rfl, hT⟩; clear E a; intro a E
 have S := S.all hT
 refine zd E ?_; clear E a; intro a E
 refine wpList_nil ?_
 refine zAb hK ?_; clear hK K
 refine wp_seq_k ?_; intro K hK
 refine zAa ?_
 refine zd E ?_; clear E a; intro a E
 refine zp E (zAz (vs := [_, _, _, _]) E rfl rfl rfl (S.get pZ) rfl rfl) ?_; clear E a; intro a E
 refine zAh E rfl rfl dZ rfl Tryz.func17 rfl yZ rfl (zKk O ad c b hD hcap oZ s hok mZ (by repeat (first | exact hL | apply hLt)) _ S.hp) ?_
 rintro v17 w ⟨rfl, hT⟩; clear E a; intro a E
 have S := S.all hT
 refine zd E ?_; clear E a; intro a E
 refine wpList_nil ?_
 refine zAb hK ?_; clear hK K
 refine wp_seq_k ?_; intro K hK
 refine zAa ?_
 iterate 2 (refine zd E ?_; clear E a; intro a E)
 refine wpList_nil ?_
 refine zAb hK ?_; clear hK K
 iterate 2 (refine wp_seq_k ?_; intro K hK)
 refine zAa ?_
 iterate 2 (refine zd E ?_; clear E a; intro a E)
 refine wpList_nil ?_
 refine zAb hK ?_; clear hK K
 refine zDd (fun (a : Act) (w' : World) => ∃ z : Int, 0 ≤ z ∧ z ≤ 9223372036854775807 ∧ St w0 [O] w' [[(b4, cel (fsC s) 29)], O] ∧ Fr a 50 [(0, .slice ad b.length c), (4, ptr b4), (6, .bool false), (7, .bool true), (8, .bool true), (9, .int .i64 z)]) ?_ ?_
 ·skip
  refine zAs E rfl (fun hb => ?_) (fun hb => ?_)
  ·replace hb := Nrm.nrm hb
   refine zAa ?_
   refine zd E ?_; clear E a; intro a E
   refine zp E (zBc E rfl rfl rfl (w_in oZ)) ?_; clear E a; intro a E
   refine zp E (rn_neg E rfl rfl (by first | exact wn_in oZ | exact rfl)) ?_; clear E a; intro a E
   refine zd E ?_; clear E a; intro a E
   refine wpList_nil ?_
   refine zAk ?_
   exact ⟨-(k + 1), by omega, by omega, S, E.keep (kE6 rfl rfl rfl rfl rfl rfl)⟩
  ·replace hb := Nrm.nrm hb
   refine wp_skip ?_
   refine zAk ?_
   exact ⟨k, by omega, by omega, S, E.keep (kE6 rfl rfl rfl rfl rfl rfl)⟩
 ·clear S E a; intro a w J; obtain ⟨z, hz0, hz1, S, E⟩ := J
  refine zAb hK ?_; clear hK K
  refine wp_seq_k ?_; intro K hK
  refine zAa ?_
  refine zd E ?_; clear E a; intro a E
  refine zp E (rn_rem E rfl rfl rfl (by first | decide | omega) (w_rem9 hz0)) ?_; clear E a; intro a E
  refine zd E ?_; clear E a; intro a E
  refine zp E (zAz (vs := [_, _, _, _]) E rfl rfl rfl (S.get pZ) rfl rfl) ?_; clear E a; intro a E
  refine zAh E rfl rfl dZ rfl Tryz.func18 rfl yZ rfl (zGz (z % 9) oZ oZ hD oZ s hok mZ (by repeat (first | exact hG0 | apply Tab.tail)) (by repeat (first | exact hG1 | apply Tab.tail)) _ S.hp) ?_
  rintro v29 w ⟨v2, C2, he, hB2, hT⟩; clear E a; intro a E
  have hpl := zGj (z % 9) b s
  obtain ⟨pb, hpb⟩ : ∃ pb, pb = zCt (z % 9) b s := ⟨_, rfl⟩
  obtain ⟨own, hown⟩ : ∃ own, own = ownS (z % 9) b s := ⟨_, rfl⟩
  rw [← hown] at he
  rw [← hpb] at hB2 hpl
  subst he
  have S := S.all hT
  obtain ⟨a2, c2, rfl⟩ := hB2.slice
  have hc2 := hB2.cap_le
  iterate 3 (refine zd E ?_; clear E a; intro a E)
  refine zAg rfl (zBf E S rfl rfl dZ rfl rfl rfl ?_); clear E S a; intro a w b11 E S
  refine zd E ?_; clear E a; intro a E
  refine zAg rfl (zAq E S rfl rfl rfl rfl (by simp [Value.oneCell']) rfl pZ (by simp) ?_); clear E S a; intro a w E S; simp only [List.take_succ_cons, List.take_zero, List.drop_succ_cons, List.drop_zero, List.cons_append, List.nil_append, List.append_nil, List.length_cons, List.length_nil, Nat.zero_add, Nat.add_zero] at S
  refine wpList_nil ?_
  refine zAb hK ?_; clear hK K
  refine wp_seq_k ?_; intro K hK
  refine zAa ?_
  refine zd E ?_; clear E a; intro a E
  refine zp E (zAz (vs := [_, _, _, _]) E rfl rfl rfl (S.get pZ) rfl rfl) ?_; clear E a; intro a E
  refine zAh E rfl rfl dZ rfl Tryz.func17 rfl yZ rfl (zKk C2 a2 c2 pb hB2.rd hc2 oZ s hok mZ (by repeat (first | exact hL | apply hLt)) _ S.hp) ?_
  rintro v34 w ⟨rfl, hT⟩; clear E a; intro a E
  have S := S.all hT
  refine zd E ?_; clear E a; intro a E
  refine wpList_nil ?_
  refine zAb hK ?_; clear hK K
  refine wp_seq_k ?_; intro K hK
  refine zCn S (.ofL [(0, 0), (3, 0), (1, 1), (2, 1), (4, 3), (5, 2)]) [[(b4, cel (fsC s) 29)]] (fun h => h.sub (by first | (simp; done) | (simp +contextual; done) | (simp [*]; done))) yZ yZ ?_
  clear S; intro w S
  refine zmd E ?_; clear E a; intro a E
  refine zm E rfl (fun w h => zAz (vs := [_, _, _, _]) E rfl rfl rfl (h.one mZ) rfl rfl) ?_; clear E a; intro a E
  refine zCu rfl rfl (zCm (cells := [_]) E S rfl rfl dZ rfl rfl rfl rfl rfl dZ rfl ?_); clear E S a; intro a w b36 E S; refine ⟨S.stab.sub (by first | (simp; done) | (simp +contextual; done) | (simp [*]; done)), ?_⟩
  refine zCu rfl rfl (zBu (by' := 1) E S rfl rfl dZ rfl rfl hB2 pZ ((zEa (g := b36) (T := 5) (xs := [.int .u8 7]) (s := 1) (m := 1) rfl (by simp [Value.oneCell']) oZ 1).src (S.stab.at mZ) rfl) rfl rfl rfl rfl rfl rfl (by simp only [maxLen]; omega) oZ ?_); clear E S a; intro a w v37 C37 E S hB37; refine ⟨S.stab.sub (by first | (simp; done) | (simp +contextual; done) | (simp [*]; done)), ?_⟩
  have hB3 : BB C37 v37 (pb ++ [7]) := zLa hB37
  obtain ⟨a3, c3, rfl⟩ := hB3.slice
  have hc3 := hB3.cap_le
  refine zFs E rfl rfl rfl dZ rfl Tryz.func17 rfl yZ rfl (zKk C37 a3 c3 (pb ++ [7]) hB3.rd hc3 (by rw [List.length_append]; simp; omega) s hok mZ (by repeat (first | exact hL | apply hLt)) _ S.hp) ?_
  rintro v39 w ⟨rfl, hT⟩; clear E a; intro a E
  have S := S.all hT
  refine zCg E rfl rfl rfl dZ (fun w => zCl E rfl rfl) ?_; clear E a; intro a E
  refine zBi ?_
  refine zAb hK ?_; clear hK K
  refine wp_seq_k ?_; intro K hK
  replace E := E.keep (e' := [(6, _), (7, _), (8, _), (12, _), (13, _)]) (kE5 rfl rfl rfl rfl rfl)
  refine zAa ?_
  iterate 2 (refine zd E ?_; clear E a; intro a E)
  refine zCc E (t := 41) rfl (rfl) (fun hb41 => ?_)
  refine zyd E hb41 ?_; clear E a; intro a E
  refine zp E (zAf E rfl rfl hb41 rfl) ?_; clear E a; intro a E
  refine zd E ?_; clear E a; intro a E
  refine zCc E (t := 44) rfl (rfl) (fun hb44 => ?_)
  refine zyd E hb44 ?_; clear E a; intro a E
  refine zp E (zAf E rfl rfl hb44 rfl) ?_; clear E a; intro a E
  refine zd E ?_; clear E a; intro a E
  refine zCc E (t := 47) rfl (rfl) (fun hb47 => ?_)
  refine zyd E hb47 ?_; clear E a; intro a E
  refine zp E (zAf E rfl rfl hb47 rfl) ?_; clear E a; intro a E
  refine zd E ?_; clear E a; intro a E
  refine wpList_nil ?_
  refine zAb hK ?_; clear hK K
  refine wp_ret ?_
  refine ret1 E rfl rfl ?_
  exact ⟨_, rfl, rfl, by repeat (first | exact S.tr | replace S := S.tail)⟩
end Go.Proofs.YtbogecljkaimdaaGreatDoor
namespace Go.Sl
structure PV where
 v : Value
 bs : List UInt8
def PV.lay (x : PV) : List Value := [x.v]
theorem PV.lay_len (x : PV) : x.lay.length = 1 := rfl
def PVs (X : zAl) (l : List PV) : Prop := ∀ x ∈ l, Rd X 1 x.v x.bs.length (byt x.bs) ∧ x.bs.length ≤ 2085
theorem PVs.sub {C D : zAl} {l : List PV} (h : PVs C l) (hs : ∀ x ∈ C, x ∈ D) : PVs D l := fun x hx => ⟨(h x hx).1.sub hs, (h x hx).2⟩
theorem PVs.set {X : zAl} {l : List PV} (h : PVs X l) (i : Nat) {y : PV} (hy : y ∈ l) : PVs X (l.set i y) := fun x hx => by
 rcases List.mem_or_eq_of_mem_set hx with q | q
 ·exact h x q
 ·rw [q]; exact h y hy
end Go.Sl
namespace Go.Proofs.YtbogecljkaimdaaGreatDoor
open Go.Sl
set_option maxRecDepth 10000
end Go.Proofs.YtbogecljkaimdaaGreatDoor
namespace Go.Sl
open Go.ChangeShapes Go.WideShapes Go.ChangeAt Go.RowKit Go.ChangeMaps
def old (w : World) : zAl := w.heap.toList.zipIdx.map fun x => (x.2, x.1)
theorem mem_old {w : World} {b : Nat} {o : Obj} (h : w.heap[b]? = some o) : (b, o) ∈ old w := by
 refine List.mem_map.2 ⟨(o, b), ?_, rfl⟩
 rw [List.mem_zipIdx_iff_getElem?]
 simpa using h
theorem old_own (w : World) : Own w (old w) := by
 refine ⟨?_, fun x hx => ?_⟩
 ·have : (old w).map (·.1) = List.range' 0 w.heap.toList.length := by simp [old, Function.comp_def]
  rw [this]; exact List.nodup_range'
 ·obtain ⟨y, hy, rfl⟩ := List.mem_map.1 hx
  rw [List.mem_zipIdx_iff_getElem?] at hy
  simpa using hy
theorem hp_old (w : World) : Hp w [old w] := by simpa [Hp] using old_own w
theorem below_old {w w' : World} {Bs : List zAl} (h : Trs w w' [old w] (old w :: Bs)) : Below w.heap.size w w' :=
 ⟨h.os, h.tape, h.output, h.size, fun k hk => by
  have e : w.heap[k]? = some w.heap[k] := Array.getElem?_eq_getElem hk
  rw [e]
  have h1 := h.own [] (by simpa using old_own w)
  exact h1.2 (k, w.heap[k]) (by simp [mem_old e])⟩
def Dec {H : Type} (enc : TypeId × Value → H) (P : Program) (w : World) (e : TypeId) (s : Nat) {α : Type} (lay : α → List Value) (good : α → Prop) : Prop :=
 ∀ n cs x, DataW.trod enc P w 0 (fun _ => true) true n e cs = some x → cs.length = s → (x.1.weights P e).all (· ≤ reachBytes) = true → ∃ a, cs = lay a ∧ good a
section
variable {H : Type} {enc : TypeId × Value → H} {P : Program} {w : World} {t e : TypeId} {s : Nat} {α : Type} {lay : α → List Value} {good : α → Prop}
theorem Dec.imp {good' : α → Prop} (h : Dec enc P w e s lay good) (k : ∀ a, good a → good' a) : Dec enc P w e s lay good' := fun n cs x h1 h2 h3 => by
 obtain ⟨a, h4, h5⟩ := h n cs x h1 h2 h3
 exact ⟨a, h4, k a h5⟩
theorem Dec.map {β : Type} {lay' : β → List Value} {good' : β → Prop} (h : Dec enc P w e s lay good) (k : ∀ a, good a → ∃ b, lay a = lay' b ∧ good' b) : Dec enc P w e s lay' good' := fun n cs x h1 h2 h3 => by
 obtain ⟨a, h4, h5⟩ := h n cs x h1 h2 h3
 obtain ⟨b, h6, h7⟩ := k a h5
 exact ⟨b, h4.trans h6, h7⟩
theorem dec_int {k : IntKind} (ht : P.underlying t = some (.int k)) : Dec enc P w t 1 (fun z => [.int k z]) (fun z => (Lit.int k z).wf = true) := fun n cs x h _ _ => by
 obtain ⟨z, h1, _, h2⟩ := DataW.trod_int ht h
 exact ⟨z, h1, h2⟩
theorem dec_i64 (ht : P.underlying t = some (.int .i64)) : Dec enc P w t 1 (fun z => [.int .i64 z]) (fun z => -9223372036854775808 ≤ z ∧ z ≤ 9223372036854775807) :=
 (dec_int ht).imp fun z hz => by simpa [Lit.wf, IntKind.min, IntKind.max, IntKind.signed, IntKind.bits] using hz
theorem dec_u64 (ht : P.underlying t = some (.int .u64)) : Dec enc P w t 1 (fun z : Nat => [.int .u64 z]) (fun z => z < 18446744073709551616) :=
 (dec_int ht).map fun z hz => by
  have hz : 0 ≤ z ∧ z ≤ 18446744073709551615 := by simpa [Lit.wf, IntKind.min, IntKind.max, IntKind.signed, IntKind.bits] using hz
  exact ⟨z.toNat, by rw [Int.toNat_of_nonneg hz.1], by omega⟩
theorem dec_u8 (ht : P.underlying t = some (.int .u8)) : Dec enc P w t 1 (fun b : UInt8 => [.int .u8 b.toNat]) (fun _ => True) :=
 (dec_int ht).map fun z hz => by
  have hz : 0 ≤ z ∧ z ≤ 255 := by simpa [Lit.wf, IntKind.min, IntKind.max, IntKind.signed, IntKind.bits] using hz
  refine ⟨UInt8.ofNat z.toNat, ?_, trivial⟩
  have : (UInt8.ofNat z.toNat).toNat = z.toNat := by simp; omega
  rw [this, Int.toNat_of_nonneg hz.1]
theorem zHl : ∀ {ds : List (DataW H)} {d : DataW H}, d ∈ ds → ∀ n ∈ d.weights P e, n ∈ DataW.weightsAll P e ds
 | d0 :: ds, d, hd, n, hn => by
  simp only [DataW.weightsAll, List.mem_append]
  rcases List.mem_cons.1 hd with rfl | hd
  ·exact .inl hn
  ·exact .inr (zHl hd n hn)
 | [], _, hd, _, _ => by cases hd
theorem list_of {n : Nat} {p : Nat → α → Prop} (h : ∀ i, i < n → ∃ a, p i a) : ∃ asx : List α, asx.length = n ∧ ∀ i a, asx[i]? = some a → p i a := by
 induction n with
 | zero => exact ⟨[], rfl, by simp⟩
 | succ n ih =>
  obtain ⟨asx, h1, h2⟩ := ih (fun i hi => h i oZ)
  obtain ⟨a, ha⟩ := h n oZ
  refine ⟨asx ++ [a], by simp [h1], fun i b hb => ?_⟩
  by_cases hi : i < n
  ·rw [List.getElem?_append_left oZ] at hb; exact h2 i b hb
  ·rw [List.getElem?_append_right oZ] at hb
   have : i = n := by
    have := (List.getElem?_eq_some_iff.1 hb).1
    simp at this; omega
   subst this
   simp [h1] at hb
   exact hb ▸ ha
theorem flat_get {asx : List α} (hl : ∀ a ∈ asx, (lay a).length = s) {l : Array Value} {off : Nat} : ∀ (k : Nat), (∀ i a, asx[i]? = some a → ∀ j v, (lay a)[j]? = some v → l[off + (k + i) * s + j]? = some v) →
  ∀ i u, (asx.flatMap lay)[i]? = some u → l[off + k * s + i]? = some u := by
 induction asx with
 | nil => intro k _ i u h; simp at h
 | cons a r ih =>
  intro k h i u hu
  rw [List.flatMap_cons] at hu
  have ha := hl a (List.mem_cons_self ..)
  by_cases hi : i < s
  ·rw [List.getElem?_append_left oZ] at hu
   exact h 0 a rfl i u hu
  ·rw [List.getElem?_append_right oZ, ha] at hu
   have := ih (fun b hb => hl b (List.mem_cons_of_mem _ hb)) (k + 1) (fun i b hb j v hv => by
    have := h (i + 1) b (by simpa using hb) j v hv
    rwa [show k + 1 + i = k + (i + 1) by omega]) (i - s) u hu
   rw [Nat.succ_mul] at this
   rwa [show off + (k * s + s) + (i - s) = off + k * s + i by omega] at this
theorem flat_length {asx : List α} (hl : ∀ a ∈ asx, (lay a).length = s) : (asx.flatMap lay).length = asx.length * s := by
 induction asx with
 | nil => simp
 | cons a r ih => rw [List.flatMap_cons, List.length_append, ih (fun b hb => hl b (List.mem_cons_of_mem _ hb)), hl a (List.mem_cons_self ..), List.length_cons, Nat.succ_mul, Nat.add_comm]
def OldS (w : World) (s sz : Nat) (lay : α → List Value) (good : α → Prop) (x : Value × List α) : Prop :=
 ∃ ad c, x.1 = .slice ad x.2.length c ∧ x.2.length ≤ c ∧ c * sz ≤ 140737488351232 ∧ Rd (old w) s x.1 x.2.length (x.2.flatMap lay) ∧ ∀ a ∈ x.2, good a
theorem dec_slice (ht : P.underlying t = some (.slice e)) (hs : P.cellsOf e = s) (h0 : 0 < s) {sz : Nat} (hz : P.bytesOf e = sz) (hd : Dec enc P w e s lay good) (one : ∀ a, good a → ∀ u ∈ lay a, u.oneCell' = true) :
  Dec enc P w t 1 (fun x : Value × List α => [x.1]) (OldS w s sz lay good) := fun n cs x h _ hw => by
 rcases Deep.open_slice ht h with ⟨rfl, rfl⟩ | ⟨a, len, cap, m, n, D, Pl, rfl, _, hl, hm, hmm, rfl, hx⟩
 ·exact ⟨(.slice none 0 0, []), rfl, none, 0, rfl, Nat.le_refl _, by simp, ⟨by simp, by simp, Nat.zero_le _, .inl ⟨rfl, none, 0, rfl⟩⟩, by simp⟩
 ·simp only [if_true] at hmm
  subst hmm
  simp only [DataW.weights, ht, List.length_map, List.length_range, List.all_cons, Bool.and_eq_true, decide_eq_true_eq, List.all_append] at hw
  obtain ⟨hw1, hw2, _⟩ := hw
  have hstep : ∀ i, i < len → ∃ b : α, w.cells? 0 (a.add (i * s)) s = some (lay b) ∧ good b := fun i hi => by
   obtain ⟨cs', h1, h2⟩ := hx i oZ
   rw [hs] at h1
   have hlen : cs'.length = s := (World.cells?_some h1).2.1
   obtain ⟨b, rfl, hb⟩ := hd _ _ _ h2 hlen (List.all_eq_true.2 fun n hn => List.all_eq_true.1 hw2 n (zHl (List.mem_map.2 ⟨i, by simpa using hi, rfl⟩) n hn))
   exact ⟨b, h1, hb⟩
  obtain ⟨asx, hal, has⟩ := list_of hstep
  have hgood : ∀ b ∈ asx, good b := fun b hb => by
   obtain ⟨i, hi⟩ := List.getElem?_of_mem hb
   exact (has i b hi).2
  have hlay : ∀ b ∈ asx, (lay b).length = s := fun b hb => by
   obtain ⟨i, hi⟩ := List.getElem?_of_mem hb
   exact (World.cells?_some (has i b hi).1).2.1
  have hlen := flat_length hlay
  refine ⟨(.slice (some a) len m, asx), rfl, some a, m, by rw [hal], by simp only [hal]; exact hl, ?_, ?_, hgood⟩
  ·rw [hz, show len + (m - len) = m by omega] at hw1
   exact hw1
  ·simp only [hal]
   refine ⟨by rw [hlen, hal], fun u hu => ?_, by omega, ?_⟩
   ·obtain ⟨b, hb, hu⟩ := List.mem_flatMap.1 hu
    exact one b (hgood b hb) u hu
   ·by_cases hl0 : len = 0
    ·exact .inl ⟨hl0, some a, m, by rw [hl0]⟩
    ·obtain ⟨b0, hb0, -⟩ := hstep 0 oZ
     have hc0 := (World.cells?_some hb0).2.2 0 h0
     have hlb : (lay b0).length = s := (World.cells?_some hb0).2.1
     rw [List.getElem?_eq_getElem oZ] at hc0
     obtain ⟨b, off, spot⟩ := a
     simp only [World.cell?, Addr.add, Nat.zero_mul, Nat.add_zero] at hc0
     split at hc0
     ·rename_i l T fr hh
      have hh' : w.heap[b]? = some (.cells l T fr) := hh
      cases spot with
      | some q => simp at hc0
      | none =>
       refine .inr ⟨b, off, m, l, T, fr, rfl, mem_old hh', ?_⟩
       have := flat_get (lay := lay) (asx := asx) (s := s) (l := l) (off := off) hlay 0 (fun i c hc j v hv => by
        obtain ⟨h1, _⟩ := has i c hc
        have hls : (lay c).length = s := (World.cells?_some h1).2.1
        have hj : j < s := by
         have := (List.getElem?_eq_some_iff.1 hv).1
         omega
        have h3 := (World.cells?_some h1).2.2 j hj
        rw [Addr.add_lit, Addr.add_lit, zHp hh', hv] at h3
        rw [Nat.zero_add]
        exact h3)
       simpa using this
     ·cases hc0
theorem dec_fields {fs : Array Field} (ht : P.underlying t = some (.struct fs)) {n : Nat} {cs : List Value} {x : DataW H × List MemPlace} (h : DataW.trod enc P w 0 (fun _ => true) true n t cs = some x) (hw : (x.1.weights P t).all (· ≤ reachBytes) = true)
  {i : Nat} {f : Field} (hf : fs[i]? = some f) (hd : Dec enc P w f.type s lay good) (hs : ((cs.drop f.offset).take (P.cellsOf f.type)).length = s) : ∃ a, (cs.drop f.offset).take (P.cellsOf f.type) = lay a ∧ good a := by
 obtain ⟨xs, m, rfl, rfl, hl, hxs, hx⟩ := DataW.trod_struct ht h
 have hi : i < fs.size := (Array.getElem?_eq_some_iff.1 hf).1
 have h1 := hx i f hf
 rw [List.getElem?_eq_getElem oZ] at h1
 refine hd _ _ _ h1 hs (List.all_eq_true.2 fun k hk => ?_)
 simp only [DataW.weights, ht] at hw
 exact List.all_eq_true.1 hw k (DataW.weights_mem_each (j := i) (by simpa using ⟨f, hf, rfl⟩) (by simp [List.getElem?_eq_getElem (show i < xs.length by omega)]) k hk)
theorem zIh {fs : Array Field} (i off : Nat) {ft : TypeId} (ht : P.underlying t = some (.struct fs)) {n : Nat} {cs : List Value} {x : DataW H × List MemPlace} (h : DataW.trod enc P w 0 (fun _ => true) true n t cs = some x) (hw : (x.1.weights P t).all (· ≤ reachBytes) = true)
  (hf : (fs[i]?).map (fun f => (f.type, f.offset)) = some (ft, off)) (hc : P.cellsOf ft = s) (hd : Dec enc P w ft s lay good) (hs : off + s ≤ cs.length) : ∃ a, (cs.drop off).take s = lay a ∧ good a := by
 rw [Option.map_eq_some_iff] at hf
 obtain ⟨f, h1, h2⟩ := hf
 cases h2
 have := dec_fields ht h hw h1 hd (by rw [hc, List.length_take, List.length_drop]; omega)
 rwa [hc] at this
theorem Dec.arg (hd : Dec enc P w t 1 lay good) {v : Value} {d : DataW H} {p : List MemPlace} (h : DataW.Trod enc P w 0 (fun _ => true) true t v d p) (h1 : v.cells.toList = [v]) {ts : List TypeId} {ds : List (DataW H)}
  (hw : (DataW.weightsEach P ts ds).all (· ≤ reachBytes) = true) {j : Nat} (ht : ts[j]? = some t) (hdj : ds[j]? = some d) : ∃ a, [v] = lay a ∧ good a := by
 obtain ⟨n, hn⟩ := h
 rw [h1] at hn
 exact hd n _ _ hn rfl (List.all_eq_true.2 fun k hk => List.all_eq_true.1 hw k (DataW.weights_mem_each ht hdj k hk))
theorem Dec.argN (hd : Dec enc P w t s lay good) {cs : Array Value} {d : DataW H} {p : List MemPlace} (h : DataW.Trod enc P w 0 (fun _ => true) true t (.agg cs) d p) (h1 : cs.size = s) {ts : List TypeId} {ds : List (DataW H)}
  (hw : (DataW.weightsEach P ts ds).all (· ≤ reachBytes) = true) {j : Nat} (ht : ts[j]? = some t) (hdj : ds[j]? = some d) : ∃ a, cs = (lay a).toArray ∧ good a := by
 obtain ⟨n, hn⟩ := h
 obtain ⟨a, h2, h3⟩ := hd n _ _ hn (by rw [Array.length_toList]; exact h1) (List.all_eq_true.2 fun k hk => List.all_eq_true.1 hw k (DataW.weights_mem_each ht hdj k hk))
 exact ⟨a, by rw [← h2]; rfl, h3⟩
theorem one_slice {b : Nat} (ht : P.underlying t = some (.slice e)) {v : Value} (h : Value.okWide P w .any b t v) : v.cells.toList = [v] := by
 obtain ⟨a, l, c, rfl⟩ := okWide_slice ht h
 rfl
theorem one_int {b : Nat} {k : IntKind} (ht : P.underlying t = some (.int k)) {v : Value} (h : Value.okWide P w .any b t v) : v.cells.toList = [v] := by
 obtain ⟨s, rfl⟩ := okWide_int ht h
 rfl
theorem flat_byt (bs : List UInt8) : (bs.flatMap fun b => [Value.int .u8 b.toNat]) = byt bs := by
 induction bs with
 | nil => rfl
 | cons b r ih => rw [List.flatMap_cons, ih]; rfl
end
end Go.Sl
namespace Go.Proofs.YtbogecljkaimdaaGreatDoor
open Go.Sl Go.ChangeShapes Go.WideShapes Go.RowKit
theorem zIo {P : Program} {W : World} {nm : String} {g m : Nat} {t e : TypeId} {cs : Array Value} {fuel : Nat} {p : List MemPlace} (l : List Int) (hg : P.globalNamed nm = some g) (ht : P.underlying t = some (.array m e)) (he : P.underlying e = some (.int .u32)) (ce : P.cellsOf e = 1) (ct : P.cellsOf t = l.length) (hm : m = l.length)
  (hv : W.var? P nm = some cs) (hd : DataW.trod (fun _ : TypeId × Value => ()) P W 0 (fun _ => true) false fuel t cs.toList = some (DataW.agg (l.map fun n => .lit (.int .u32 n)), p)) : Tab [old W] g l := by
 subst hm
 obtain ⟨xs, k, _, ex, hlen, hl, hel⟩ := DataW.trod_array ht hd
 rw [ct] at hlen
 have e3 : (xs.map (·.1)) = l.map fun n => (DataW.lit (.int .u32 n) : DataW Unit) := (DataW.agg.inj (Prod.mk.inj ex).1).symm
 have hcs : cs.toList = u32s l := by
  apply List.ext_getElem?
  intro i
  rcases Nat.lt_or_ge i l.length with hi | hi
  ·have hE := hel i hi
   rw [ce, Nat.mul_one, List.getElem?_eq_getElem oZ] at hE
   obtain ⟨z, e1, e2, _⟩ := DataW.trod_int he hE
   have e4 : (xs.map (·.1))[i]? = (l.map fun n => (DataW.lit (.int .u32 n) : DataW Unit))[i]? := by rw [e3]
   rw [List.getElem?_map, List.getElem?_map, List.getElem?_eq_getElem (by omega : i < xs.length), List.getElem?_eq_getElem hi, e2] at e4
   simp only [Option.map_some, Option.some.injEq, DataW.lit.injEq, Lit.int.injEq, true_and] at e4
   have h0 : ((cs.toList.drop i).take 1)[0]? = some (.int .u32 z) := by rw [e1]; rfl
   have h1 : cs.toList[i]? = some (.int .u32 z) := by simpa using h0
   rw [h1, e4]
   simp [u32s, hi]
  ·rw [List.getElem?_eq_none oZ, List.getElem?_eq_none (by simp [u32s]; omega)]
 simp only [World.var?, hg, Option.bind_some] at hv
 split at hv
 ·rename_i c T fr hh
  cases hv
  exact ⟨_, List.Mem.head _, T, fr, mem_old (by rw [← hcs]; simpa using hh)⟩
 ·cases hv
end Go.Proofs.YtbogecljkaimdaaGreatDoor
namespace Go.Proofs.YtbogecljkaimdaaGreatDoor
open Go.Sl Go.ChangeShapes Go.WideShapes Go.ChangeAt Go.RowKit
section
variable {H : Type} {enc : TypeId × Value → H} {P : Program} {w : World} {t e : TypeId} {s : Nat} {α : Type} {lay : α → List Value} {good : α → Prop} {size : α → Nat}
theorem zKl {d : DataW H} : ∀ {l : List (DataW H)}, d ∈ l → Rows.uptoBulk d ≤ Rows.uptoBulkAll l
 | x :: r, h => by
  simp only [Rows.uptoBulkAll]
  rcases List.mem_cons.1 h with rfl | h
  ·omega
  ·have := zKl h; omega
 | [], h => by cases h
def DecB (enc : TypeId × Value → H) (P : Program) (w : World) (e : TypeId) (s : Nat) (lay : α → List Value) (good : α → Prop) (size : α → Nat) : Prop :=
 ∀ n cs x, DataW.trod enc P w 0 (fun _ => true) true n e cs = some x → cs.length = s → (x.1.weights P e).all (· ≤ reachBytes) = true → ∃ a, cs = lay a ∧ good a ∧ size a ≤ Rows.uptoBulk x.1
theorem DecB.arg (hd : DecB enc P w t 1 lay good size) {v : Value} {d : DataW H} {p : List MemPlace} (h : DataW.Trod enc P w 0 (fun _ => true) true t v d p) (h1 : v.cells.toList = [v]) {ts : List TypeId} {ds : List (DataW H)}
  (hw : (DataW.weightsEach P ts ds).all (· ≤ reachBytes) = true) (hk : Rows.uptoSmall H ds = true) {j : Nat} (ht : ts[j]? = some t) (hdj : ds[j]? = some d) : ∃ a, [v] = lay a ∧ good a ∧ size a ≤ 1048576 := by
 obtain ⟨n, hn⟩ := h
 rw [h1] at hn
 obtain ⟨a, h2, h3, h4⟩ := hd n _ _ hn rfl (List.all_eq_true.2 fun k hk => List.all_eq_true.1 hw k (DataW.weights_mem_each ht hdj k hk))
 have hb : Rows.uptoBulkAll ds ≤ 1048576 := of_decide_eq_true hk
 have := zKl (List.mem_of_getElem? hdj)
 have h5 : size a ≤ Rows.uptoBulk d := h4
 exact ⟨a, h2, h3, by omega⟩
end
end Go.Proofs.YtbogecljkaimdaaGreatDoor
namespace Go.Proofs.YtbogecljkaimdaaGreatDoor
open Go.Sl Go.ChangeShapes Go.WideShapes Go.ChangeAt Go.RowKit
section
variable {H : Type} {enc : TypeId × Value → H} {P : Program} {w : World} {t e : TypeId} {s : Nat} {α : Type} {lay : α → List Value} {good : α → Prop} {size : α → Nat}
theorem DecB.argN (hd : DecB enc P w t s lay good size) {cs : Array Value} {d : DataW H} {p : List MemPlace} (h : DataW.Trod enc P w 0 (fun _ => true) true t (.agg cs) d p) (h1 : cs.size = s) {ts : List TypeId} {ds : List (DataW H)}
  (hw : (DataW.weightsEach P ts ds).all (· ≤ reachBytes) = true) (hk : Rows.uptoSmall H ds = true) {j : Nat} (ht : ts[j]? = some t) (hdj : ds[j]? = some d) : ∃ a, cs = (lay a).toArray ∧ good a ∧ size a ≤ 1048576 := by
 obtain ⟨n, hn⟩ := h
 obtain ⟨a, h2, h3, h4⟩ := hd n _ _ hn (by rw [Array.length_toList]; exact h1) (List.all_eq_true.2 fun k hk => List.all_eq_true.1 hw k (DataW.weights_mem_each ht hdj k hk))
 have hb : Rows.uptoBulkAll ds ≤ 1048576 := of_decide_eq_true hk
 have := zKl (List.mem_of_getElem? hdj)
 have h5 : size a ≤ Rows.uptoBulk d := h4
 exact ⟨a, by rw [← h2]; rfl, h3, by omega⟩
theorem DecB.imp {good' : α → Prop} {size' : α → Nat} (h : DecB enc P w e s lay good size) (k : ∀ a, good a → good' a) (k2 : ∀ a, size' a ≤ size a) : DecB enc P w e s lay good' size' := fun n cs x h1 h2 h3 => by
 obtain ⟨a, h4, h5, h6⟩ := h n cs x h1 h2 h3
 exact ⟨a, h4, k a h5, Nat.le_trans (k2 a) h6⟩
end
section
variable {H : Type} {enc : TypeId × Value → H} {w : World}
theorem dec_sum : Dec enc Tryz.prog w 29 4 (fun s : Fs => [.int .u64 s.a, .int .u64 s.b, .int .u64 s.c, .int .u64 s.d]) Fs.Ok := fun n cs x h hlen hw => by
 match cs, hlen with
 | [c0, c1, c2, c3], _ =>
 have ki : Tryz.prog.cellsOf 27 = 1 := by kernel_rfl
 have ht := Tryz.underlying29
 obtain ⟨a0, e0, h0⟩ := zIh 0 0 ht h hw rfl ki (dec_u64 (enc := enc) Tryz.underlying27) (by simp)
 obtain ⟨a1, e1, h1⟩ := zIh 1 1 ht h hw rfl ki (dec_u64 (enc := enc) Tryz.underlying27) (by simp)
 obtain ⟨a2, e2, h2⟩ := zIh 2 2 ht h hw rfl ki (dec_u64 (enc := enc) Tryz.underlying27) (by simp)
 obtain ⟨a3, e3, h3⟩ := zIh 3 3 ht h hw rfl ki (dec_u64 (enc := enc) Tryz.underlying27) (by simp)
 simp only [List.drop_succ_cons, List.drop_zero, List.take_succ_cons, List.take_zero, List.cons.injEq, and_true] at e0 e1 e2 e3
 subst e0 e1 e2 e3
 exact ⟨⟨a0, a1, a2, a3⟩, rfl, ⟨h0, h1, h2, h3⟩⟩
end
theorem laid4 {W : World} (h : laidMetH Tryz.prog [("undercroft/undercroftref02.first", Rows.laid_undercroft_undercroftref02_first), ("undercroft/undercroftref02.rounds", Rows.laid_undercroft_undercroftref02_rounds), ("unicode/utf8.acceptRanges", Rows.laid_unicode_utf8_acceptRanges), ("undercroft/sum.rounds", Rows.laid_undercroft_sum_rounds), ("unicode/utf8.first", Rows.laid_unicode_utf8_first)] W) : Lay4 [old W] := by
 rw [MakeChecks.laidMetH_plain _ _ _ yZ] at h
 obtain ⟨ps, ⟨g0, t0, cs0, f0, p0, q0, hg0, ht0, hv0, hd0, ⟨g1, t1, cs1, f1, p1, q1, hg1, ht1, hv1, hd1, ⟨gx, tx, csx, fx, px, qx, hgx, htx, hvx, hdx, ⟨g2, t2, cs2, f2, p2, q2, hg2, ht2, hv2, hd2, _, _⟩, _⟩, _⟩, _⟩, _, _⟩ := h
 have a0 : Tryz.prog.globalNamed "undercroft/undercroftref02.first" = some 0 := by kernel_rfl
 have a1 : Tryz.prog.globalNamed "undercroft/undercroftref02.rounds" = some 1 := by kernel_rfl
 have a2 : Tryz.prog.globalNamed "undercroft/sum.rounds" = some 2 := by kernel_rfl
 obtain rfl := Option.some.inj (a0.symm.trans hg0)
 obtain rfl := Option.some.inj (a1.symm.trans hg1)
 obtain rfl := Option.some.inj (a2.symm.trans hg2)
 obtain rfl := Option.some.inj ((show (Tryz.prog.globals[(0 : Nat)]?).map (·.type) = some 122 by kernel_rfl).symm.trans ht0)
 obtain rfl := Option.some.inj ((show (Tryz.prog.globals[(1 : Nat)]?).map (·.type) = some 127 by kernel_rfl).symm.trans ht1)
 obtain rfl := Option.some.inj ((show (Tryz.prog.globals[(2 : Nat)]?).map (·.type) = some 127 by kernel_rfl).symm.trans ht2)
 exact ⟨zIo shaK a2 Tryz.underlying127 Tryz.underlying121 yZ yZ yZ hv2 hd2,
  zIo sha0.l a0 Tryz.underlying122 Tryz.underlying121 yZ yZ yZ hv0 hd0,
  zIo shaK a1 Tryz.underlying127 Tryz.underlying121 yZ yZ yZ hv1 hd1⟩
theorem reads_row (W : World) (hL : Lay4 [old W]) (v0 : Value) (b : List UInt8) (k0 : Rd (old W) 1 v0 b.length (byt b)) (hl : b.length ≤ 140737488351250) (hc : ∃ ad c, v0 = .slice ad b.length c ∧ b.length ≤ c) (s : Fs) (hs : s.Ok) (k : Int) (hk : -9223372036854775808 ≤ k ∧ k ≤ 9223372036854775807) (w0 : World) (H : Hp w0 [old W]) :
  Ret Tryz.prog 4 #[v0, .agg [.int .u64 s.a, .int .u64 s.b, .int .u64 s.c, .int .u64 s.d].toArray, .int .i64 k] w0 fun u w' => u = .bool true ∧ Trs w0 w' [old W] [old W] := by
 obtain ⟨ad, c, rfl, h2⟩ := hc
 exact readsL_walk (old W) hL ad c b k0 h2 hl s hs k hk w0 H
end Go.Proofs.YtbogecljkaimdaaGreatDoor
namespace Go.Sl
open Go.ChangeShapes Go.WideShapes Go.ChangeAt Go.RowKit
section
variable {H : Type} {enc : TypeId × Value → H} {P : Program}
theorem zLf (hl : laidOutB P = true) {W W' : World} (hb : Below W.heap.size W W') {sp : Nat → Bool} : ∀ (ts : List TypeId) (vs : List Value) (ds : List (DataW H)) (ps : List MemPlace),
  (∀ t ∈ ts, P.readableRec t = true ∧ t < P.types.size) → DataW.TrodAll enc P W 0 (fun _ => true) true ts vs ds ps → (∀ x ∈ ps, x.block < W.heap.size) → (∀ x ∈ ps, sp x.block = true) → DataW.TrodAll enc P W' 0 sp true ts vs ds ps
 | [], vs, ds, ps, _, h, _, _ => by
  obtain ⟨rfl, rfl, rfl⟩ := trodAll_nil h
  exact trodAll_mk0
 | t :: ts, vs, ds, ps, ht, h, hlt, hsp => by
  obtain ⟨v0, vs0, d0, ds0, p0, q0, rfl, rfl, rfl, h0, r0⟩ := trodAll_cons h
  refine trodAll_cons_mk ?_ (zLf hl hb ts vs0 ds0 q0 (fun u hu => ht u (List.mem_cons_of_mem _ hu)) r0 (fun x hx => hlt x (List.mem_append_right _ hx)) (fun x hx => hsp x (List.mem_append_right _ hx)))
  exact WideElems.Trod_stays hl (ht t (List.mem_cons_self ..)).1 (ht t (List.mem_cons_self ..)).2 h0 (fun x hx => hb.same (hlt x (List.mem_append_left _ hx))) (fun x hx => hsp x (List.mem_append_left _ hx))
theorem post_below {f : Func} {s : ChangeSpec} {apart fresh handsOn again : Bool} {W W' : World} {args : Array Value} {ds gs : List (DataW H)} {before : List MemPlace} {tb : TypeId}
  (hl : laidOutB P = true) (hW : DataW.Whole enc P f.params.toList s.vars apart W args.toList ds gs before) (hvars : s.vars = [])
  (hts : ∀ t ∈ f.params.toList, P.readableRec t = true ∧ t < P.types.size) (hrt : f.resultTypes = #[tb]) (htb : P.underlying tb = some .bool)
  (hs : (s.fn H (ds ++ gs)) = { results := [.lit (.bool true)], args := ds }) (hb : Below W.heap.size W W') :
  s.post enc P f apart fresh handsOn again W args (.bool true) W' := by
 have hlt : ∀ p ∈ before, p.block < W.heap.size := fun p hp => hW.lt p hp
 obtain ⟨p, q, hA, hV, rfl, hz, hn⟩ := id hW
 rw [hvars] at hV
 obtain ⟨rfl, rfl⟩ := trodVars_none hV
 simp only [List.append_nil] at *
 have hargs : ∀ sp : Nat → Bool, (∀ x ∈ p, sp x.block = true) → DataW.TrodAll enc P W' 0 sp true f.params.toList args.toList (s.fn H ds).args p := fun sp hsp => by
  rw [hs]; exact zLf hl hb _ _ _ _ hts hA hlt hsp
 have hres : ∀ (b : Nat) (sp : Nat → Bool) (hd : Bool), DataW.TrodAll enc P W' b sp hd f.resultTypes.toList ((Value.bool true).resultList f.resultTypes.size) (s.fn H ds).results [] := fun b sp hd => by
  rw [hs, hrt]; exact trodAll_mk1 (shut_bool htb true)
 have hvs : ∀ sp : Nat → Bool, DataW.TrodVars enc P W' sp s.vars (s.fn H ds).vars [] := fun sp => by
  rw [hvars, hs]; exact rfl
 refine ⟨ds, [], p, [], p, [], hW, by simpa using hres _ _ _, by simpa using hargs _ (fun x hx => by simpa using hlt x hx), by simpa using hvs _, World.keptBut_mono (fun x hx => ⟨hx, ?_⟩) (hb.frame (· ∈ p)), fun _ => ?_⟩
 ·exact Or.inr (Or.inl hx)
 ·have hok : ∀ (j : Nat) (t : TypeId) (r : Value), f.resultTypes[j]? = some t → ((Value.bool true).resultList f.resultTypes.size)[j]? = some r → Value.okWide P W' .any 0 t r :=
   ok_one hrt rfl (okWide_bool_mk htb true)
  have h1 := trodAll_append (hargs (fun _ => true) (fun _ _ => rfl)) (hres 0 (fun _ => true) true)
  refine ⟨hok, _, [], [] ++ p, ⟨[] ++ p, [], h1, by have := hvs (fun _ => true); rw [hs] at this; exact this, by simp, ?_, ?_⟩, fun x hx _ => by simpa using hx⟩
  ·intro b off hx
   have hin : MemPlace.cell b off ∈ p := by simpa using hx
   rw [hb.frozen (hlt _ hin)]
   exact hz b off hin
  ·intro ha
   simpa using hn ha
end
end Go.Sl
