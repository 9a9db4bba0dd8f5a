/-
  Texts put together (9).
-/
import Derived.Test.YtbogecljkaimdaaGreatDoorZRecordBack8
namespace Go.Sl
theorem zEh (s : Rdr) (k : Nat) : (s.num k).1 < 256 ^ k := by
  have hp : 0 < 256 ^ k := Nat.pow_pos (by omega)
  unfold Rdr.num
  split
  · exact hp
  · split
    · exact hp
    · split
      · exact hp
      · rw [Int.toNat_natCast]
        exact Nat.lt_of_lt_of_le (zFu _) (Nat.pow_le_pow_right (by omega) (by simp only [Rdr.cut, List.length_take]; omega))
def zFd (size : Nat) (less : Int) (s : Rdr) : Nat → List Int × Rdr
  | 0 => ([], s)
  | i + 1 => ((zFd size less s i).1 ++ [(((zFd size less s i).2.num size).1 : Int) - less], ((zFd size less s i).2.num size).2)
theorem zJm (size : Nat) (less : Int) (s : Rdr) (i : Nat) : (zFd size less s i).1.length = i := by
  induction i with
  | zero => rfl
  | succ i ih => simp [zFd, ih]
def zEo (s : Rdr) (size : Nat) (less : Int) : List Int × Rdr := zFd size less (s.num 2).2 (min (s.num 2).1 241)
def prpS (s : Rdr) : Nat → List Prp × Rdr
  | 0 => ([], s)
  | i + 1 => ((prpS s i).1 ++ [⟨((prpS s i).2.text 24).1, (((prpS s i).2.text 24).2.text 64).1⟩], (((prpS s i).2.text 24).2.text 64).2)
theorem prpS_len (s : Rdr) (i : Nat) : (prpS s i).1.length = i := by
  induction i with
  | zero => rfl
  | succ i ih => simp [prpS, ih]
def zDf (k : Int) : Rec := ⟨k, [], 0, 0, 0, 0, [], [], 0, 0, 0, [], []⟩
def take1 (k : Int) (s : Rdr) : Rec × Rdr := ({ zDf k with name := (s.text 24).1, many := ((s.text 24).2.num 2).1 }, ((s.text 24).2.num 2).2)
def take3 (k : Int) (s : Rdr) : Rec × Rdr := ({ zDf k with keep := (zEo s 4 0).1 }, (zEo s 4 0).2)
def take4 (k : Int) (s : Rdr) : Rec × Rdr := ({ zDf k with object := (s.num 4).1, keep := (zEo (s.num 4).2 2 1).1 }, (zEo (s.num 4).2 2 1).2)
def zJn (k : Int) (s : Rdr) : Rec × Rdr :=
  let a := s.num 4
  let b := a.2.num 2
  let c := b.2.num 2
  let d := c.2.bytes c.1
  ({ zDf k with object := a.1, at_ := (b.1 : Int) - 1, data := d.1 }, d.2)
def take6 (k : Int) (s : Rdr) : Rec × Rdr := ({ zDf k with many := (s.num 4).1 }, (s.num 4).2)
def zJv (k : Int) (s : Rdr) : Rec × Rdr :=
  let n := s.text 240
  let a := n.2.num 1
  let b := a.2.num 6
  let c := b.2.num 6
  let d := c.2.num 1
  let t := d.2.text 24
  let m := t.2.num 1
  let p := prpS m.2 m.1
  ({ zDf k with name := n.1, typ := a.1, frm := b.1, guid := c.1, origin := d.1, snap := t.1, props := p.1 }, p.2)
def zEb (k : Int) (s : Rdr) : Rec × Rdr := if k = 1 then take1 k s else if k = 2 then zJv k s else if k = 3 then take3 k s else if k = 4 then take4 k s else if k = 5 then zJn k s else take6 k s
def RecO (tp ti tu : TypeId) (D : zAs) (r : Rec) (pv kv dv : Value) : Prop := ∃ D1 D2 D3, D = D1 ++ (D2 ++ D3) ∧
  Buf D1 tp 2 pv r.props.length (r.props.flatMap Prp.lay) ∧ Buf D2 ti 1 kv r.keep.length (ints r.keep) ∧ Buf D3 tu 1 dv r.data.length (byt r.data)
theorem RecO.rd {tp ti tu : TypeId} {D : zAs} {r : Rec} {pv kv dv : Value} (h : RecO tp ti tu D r pv kv dv) : RecR D r pv kv dv := by
  obtain ⟨D1, D2, D3, rfl, h1, h2, h3⟩ := h
  exact ⟨h1.rd.sub fun x hx => by simp [hx], h2.rd.sub fun x hx => by simp [hx], h3.rd.sub fun x hx => by simp [hx]⟩
abbrev nilv : Value := .slice none 0 0
end Go.Sl
namespace Go.Proofs.YtbogecljkaimdaaGreatDoor
open Go.Sl
set_option maxRecDepth 10000
abbrev RecOw := RecO 70 3 5
theorem keep_ret (p : Nat) (s : Rdr) (A : zAs) (hA : RdC 108 p s A) (size : Nat) (less : Int) (h4 : size ≤ 4) (hl : 0 ≤ less ∧ less ≤ 1) (w0 : World) (H : Hp w0 [A]) :
    Ret Tryz.prog 60 #[ptr p, .int .i64 size, .int .i64 less] w0 fun u w' => ∃ A' C, RdC 108 p (zEo s size less).2 A' ∧ Buf C 3 1 u (zEo s size less).1.length (ints (zEo s size less).1) ∧ Trs w0 w' [A] [A', C] := by
  have S := St.begin H
  have hn2 : (s.num 2).1 < 65536 := zEh s 2
  refine zGs 25 Tryz.func60 rfl rfl (by decide) ?_; intro a E
  refine wp_seq_k ?_; intro K hK
  refine zAa ?_
  refine zp E (zAe E rfl rfl) ?_; clear E a; intro a E
  refine wpList_nil ?_
  refine zAf hK ?_; clear hK; clear K
  refine wp_seq_k ?_; intro K hK
  refine zAa ?_
  refine zp E (zAe E rfl rfl) ?_; clear E a; intro a E
  refine wpList_nil ?_
  refine zAf hK ?_; clear hK; clear K
  iterate 2 (refine wp_seq_k ?_; intro K hK)
  refine zAa ?_
  refine zp E (zAd E rfl rfl) ?_; clear E a; intro a E
  refine zAn E rfl rfl (by decide) rfl Tryz.func44 rfl (by kernel_rfl) rfl (zDu p s A _ hA (S.hp.sel (zAi (by repeat (first | exact pk1 | apply zAc)) (zAo _))) 2) ?_
  rintro v9 w ⟨A1, rfl, hA1, hT⟩; clear E a; intro a E
  replace S := S.call1 (zAi (by repeat (first | exact pk1 | apply zAc)) (zAo _)) hT; obtain ⟨n, hn⟩ : ∃ n, n = (s.num 2).1 := ⟨_, rfl⟩; rw [← hn] at E hn2
  refine zp E (by first | exact zBi E rfl rfl rfl rfl (by first | exact wu8 _ | exact zFj (by omega) | exact zDt (by omega) | exact w_in (by omega) | exact zCb (by omega) | exact rfl) | exact zBz E rfl rfl rfl rfl rfl (by assumption) (S.stab.at (by simp))) ?_; clear E a; intro a E
  refine zp E (rn_min E rfl rfl rfl) ?_; clear E a; intro a E
  obtain ⟨q, hq⟩ : ∃ q, q = min n 241 := ⟨_, rfl⟩; rw [show min (n : Int) 241 = ((q : Nat) : Int) by omega] at E
  refine zp E (zAd E rfl rfl) ?_; clear E a; intro a E
  refine wpList_nil ?_
  refine zAf hK ?_; clear hK; clear K
  refine wp_block ?_
  refine wp_loop_ghost (fun (m : Nat) (a : Act) (w' : World) => ∃ (i : Nat) (A' C : zAs) (v : Value), m = q - i ∧ i ≤ q ∧ RdC 108 p (zFd size less (s.num 2).2 i).2 A' ∧ Buf C 3 1 v i (ints (zFd size less (s.num 2).2 i).1) ∧ St w0 [A] w' [A', C] ∧ Fr a 25 [(0, ptr p), (1, .int .i64 size), (2, .int .i64 less), (7, v), (11, .int .i64 q), (12, .int .i64 i)]) (q) ?_ ?_
  · exact ⟨0, A1, [], _, by omega, by omega, hA1, Buf.nil _ _, S.addNil.perm2, E.keep (zAb rfl (zAb rfl (zAb rfl (zAb rfl (zAb rfl (zAb rfl zAr))))))⟩
  clear E; clear a; (try clear S); rintro m a w ⟨i, A', C, v, rfl, hi, hA', hB, S, E⟩
  refine wp_seq_k ?_; intro K hK
  refine zAa ?_
  refine zp E (zCw E rfl rfl rfl) ?_; clear E a; intro a E
  refine wpList_nil ?_
  refine zAf hK ?_; clear hK; clear K
  refine wp_seq_k ?_; intro K hK
  refine zBj E rfl (fun hb => ?_) (fun hb => ?_)
  · replace hb := Nrm.nrm hb
    refine wp_skip ?_
    refine zAf hK ?_; clear hK; clear K
    refine wp_seq_k ?_; intro K hK
    refine wp_block ?_
    have hlt : ((zFd size less (s.num 2).2 i).2.num size).1 < 4294967296 := Nat.lt_of_lt_of_le (zEh _ size) (Nat.pow_le_pow_right (n := 256) (by omega) h4)
    refine zAa ?_
    iterate 3 (refine zp E (zAd E rfl rfl) ?_; clear E a; intro a E)
    refine zAn E rfl rfl (by decide) rfl Tryz.func44 rfl (by kernel_rfl) rfl (zDu p _ A' _ hA' (S.hp.sel (zAi (by repeat (first | exact pk1 | apply zAc)) (zAo _))) size) ?_
    rintro v17 w ⟨A2, rfl, hA2, hT⟩; clear E a; intro a E
    replace S := S.call1 (zAi (by repeat (first | exact pk1 | apply zAc)) (zAo _)) hT; obtain ⟨x, hx⟩ : ∃ x, x = ((zFd size less (s.num 2).2 i).2.num size).1 := ⟨_, rfl⟩; rw [← hx] at E hlt
    refine zp E (by first | exact zBi E rfl rfl rfl rfl (by first | exact wu8 _ | exact zFj (by omega) | exact zDt (by omega) | exact w_in (by omega) | exact zCb (by omega) | exact rfl) | exact zBz E rfl rfl rfl rfl rfl (by assumption) (S.stab.at (by simp))) ?_; clear E a; intro a E
    refine zp E (zAd E rfl rfl) ?_; clear E a; intro a E
    refine zp E (zEw E rfl rfl rfl (w_in (by omega))) ?_; clear E a; intro a E
    refine zAm rfl (zEs (cells := [_]) E S rfl rfl (by decide) rfl rfl rfl rfl rfl (by decide) rfl ?_); clear E S a; intro a w b21 E S
    refine zAm rfl (zDi (by' := 8) E S rfl rfl (by decide) rfl rfl hB (by repeat (first | exact pk1 | apply zAc)) ((zGm (g := b21) (T := 3) (xs := [.int .i64 ((x : Int) - less)]) (s := 1) (m := 1) rfl (by simp [Value.oneCell']) (by omega) 1).src (S.stab.at (by repeat (first | exact mm1 | assumption | apply List.Mem.tail))) rfl) rfl rfl rfl rfl rfl rfl (by simp only [maxLen]; omega) (by omega) ?_); clear E S a; intro a w v22 C22 E S hB22
    refine zp E (zAe E rfl rfl) ?_; clear E a; intro a E
    refine wpList_nil ?_
    refine zBo ?_
    refine zAf hK ?_; clear hK; clear K
    refine zAa ?_
    refine zp E (zCc E rfl rfl rfl (by first | exact zCt (y := 1) (by omega) | exact w_in (by omega) | exact zCb (by omega) | exact rfl)) ?_; clear E a; intro a E
    refine zp E (zAd E rfl rfl) ?_; clear E a; intro a E
    refine wpList_nil ?_
    refine zBn ?_
    have hB2 : Buf C22 3 1 v22 (i + 1) (ints (zFd size less (s.num 2).2 (i + 1)).1) := by
      rw [zFd, ← hx]; simp only [ints, List.map_append]; exact hB22
    exact ⟨_, by omega, i + 1, A2, C22, v22, rfl, by omega, hA2, hB2, (St.drops2 [_] (S.front2 (A := A2) (B := C22) (by repeat (first | exact pk1 | apply zAc)) (by repeat (first | exact pk1 | apply zAc)))), E.keep (zAb rfl (zAb rfl (zAb rfl (zAb rfl (zAb rfl (zAb rfl zAr))))))⟩
  · replace hb := Nrm.nrm hb
    refine wp_exit ?_
    refine zBf ?_; clear hK; clear K
    refine zBf ?_
    refine zCr ?_
    refine zAf hK ?_; clear hK; clear K
    refine wp_seq_k ?_; intro K hK
    refine zAa ?_
    refine zp E (zAd E rfl rfl) ?_; clear E a; intro a E
    refine zp E (zAe E rfl rfl) ?_; clear E a; intro a E
    refine wpList_nil ?_
    refine zAf hK ?_; clear hK; clear K
    refine wp_ret ?_
    refine ret1 E rfl rfl ?_
    obtain rfl : i = q := by omega
    have hk : zEo s size less = zFd size less (s.num 2).2 i := by rw [zEo, ← hn, ← hq]
    rw [hk, zJm]
    exact ⟨_, rfl, A', C, hA', hB, S.tr⟩
end Go.Proofs.YtbogecljkaimdaaGreatDoor
namespace Go.Proofs.YtbogecljkaimdaaGreatDoor
open Go.Sl
set_option maxRecDepth 10000
section
variable (p b : Nat) (k : Int) (s : Rdr) (A : zAs) (hA : RdC 108 p s A) (w0 : World) (H : Hp w0 [A, [(b, cel ((zDf k).cells nilv nilv nilv) 26)]])
include hA H
theorem take1_ret : Ret Tryz.prog 52 #[ptr p, ptr b] w0 fun _ w' => ∃ A' D pv kv dv, RdC 108 p (take1 k s).2 A' ∧ RecOw D (take1 k s).1 pv kv dv ∧ Trs w0 w' [A, [(b, cel ((zDf k).cells nilv nilv nilv) 26)]] [A', [(b, cel ((take1 k s).1.cells pv kv dv) 26)], D] := by
  have S := St.begin H
  have hn : ((s.text 24).2.num 2).1 < 65536 := zEh _ 2
  refine zCg 15 Tryz.func52 rfl rfl (by decide) ?_; intro a E
  refine zAa ?_
  iterate 3 (refine zp E (zAd E rfl rfl) ?_; clear E a; intro a E)
  refine zAn E rfl rfl (by decide) rfl Tryz.func53 rfl (by kernel_rfl) rfl (zGe p s A _ hA (S.hp.sel (zAi (by repeat (first | exact pk1 | apply zAc)) (zAo _))) 24) ?_
  rintro v7 w ⟨A1, rfl, hA1, hT⟩; clear E a; intro a E
  have S := S.call1 (zAi (by repeat (first | exact pk1 | apply zAc)) (zAo _)) hT
  refine zp E (zAd E rfl rfl) ?_; clear E a; intro a E
  refine zAn E rfl rfl (by decide) rfl Tryz.func44 rfl (by kernel_rfl) rfl (zDu p _ A1 _ hA1 (S.hp.sel (zAi (by repeat (first | exact pk1 | apply zAc)) (zAo _))) 2) ?_
  rintro v9 w ⟨A2, rfl, hA2, hT⟩; clear E a; intro a E
  have S := S.call1 (zAi (by repeat (first | exact pk1 | apply zAc)) (zAo _)) hT
  refine zp E (by first | exact zBi E rfl rfl rfl rfl (by first | exact wu8 _ | exact zFj (by omega) | exact zDt (by omega) | exact w_in (by omega) | exact zCb (by omega) | exact rfl) | exact zBz E rfl rfl rfl rfl rfl (by assumption) (S.stab.at (by simp))) ?_; clear E a; intro a E
  refine zp E (zBb E rfl rfl) ?_; clear E a; intro a E
  refine zp E (by first | exact zAg (q := 1) E rfl rfl rfl | exact zAh (q := 1) E rfl rfl rfl) ?_; clear E a; intro a E
  refine zAm rfl (zBk E S rfl rfl rfl rfl rfl rfl (by repeat (first | exact pk1 | apply zAc)) (by first | exact Nat.le_of_ble_eq_true rfl | (simp; done) | (simp; omega)) ?_); clear E S a; intro a w E S; try dsimp only [List.set] at S
  refine zp E (zBb E rfl rfl) ?_; clear E a; intro a E
  refine zp E (by first | exact zAg (q := 10) E rfl rfl rfl | exact zAh (q := 10) E rfl rfl rfl) ?_; clear E a; intro a E
  refine zAm rfl (zBk E S rfl rfl rfl rfl rfl rfl (by repeat (first | exact pk1 | apply zAc)) (by first | exact Nat.le_of_ble_eq_true rfl | (simp; done) | (simp; omega)) ?_); clear E S a; intro a w E S; try dsimp only [List.set] at S
  refine wpList_nil ?_
  refine end0 E rfl ?_
  exact ⟨_, rfl, A2, [], nilv, nilv, nilv, hA2, ⟨[], [], [], rfl, Buf.nil _ _, Buf.nil _ _, Buf.nil _ _⟩, (S.addNil.perm (Bs := [A2, _, []]) (zAi (by repeat (first | exact pk1 | apply zAc)) (zAi (by repeat (first | exact pk1 | apply zAc)) (zAi (by repeat (first | exact pk1 | apply zAc)) (zAo _))))).tr⟩
theorem take3_ret : Ret Tryz.prog 59 #[ptr p, ptr b] w0 fun _ w' => ∃ A' D pv kv dv, RdC 108 p (take3 k s).2 A' ∧ RecOw D (take3 k s).1 pv kv dv ∧ Trs w0 w' [A, [(b, cel ((zDf k).cells nilv nilv nilv) 26)]] [A', [(b, cel ((take3 k s).1.cells pv kv dv) 26)], D] := by
  have S := St.begin H
  refine zCg 9 Tryz.func59 rfl rfl (by decide) ?_; intro a E
  refine zAa ?_
  iterate 2 (refine zp E (zAd E rfl rfl) ?_; clear E a; intro a E)
  refine zAn E rfl rfl (by decide) rfl Tryz.func60 rfl (by kernel_rfl) rfl (keep_ret p s A hA 4 0 (by omega) (by omega) _ (S.hp.sel (zAi (by repeat (first | exact pk1 | apply zAc)) (zAo _)))) ?_
  rintro v6 w ⟨A1, C, hA1, hC, hT⟩; clear E a; intro a E
  have S := S.call2 (zAi (by repeat (first | exact pk1 | apply zAc)) (zAo _)) hT; obtain ⟨ad, c, rfl⟩ := hC.slice
  refine zp E (zBb E rfl rfl) ?_; clear E a; intro a E
  refine zp E (by first | exact zAg (q := 11) E rfl rfl rfl | exact zAh (q := 11) E rfl rfl rfl) ?_; clear E a; intro a E
  refine zAm rfl (zBk E S rfl rfl rfl rfl rfl rfl (by repeat (first | exact pk1 | apply zAc)) (by first | exact Nat.le_of_ble_eq_true rfl | (simp; done) | (simp; omega)) ?_); clear E S a; intro a w E S; try dsimp only [List.set] at S
  refine wpList_nil ?_
  refine end0 E rfl ?_
  exact ⟨_, rfl, A1, C, nilv, _, nilv, hA1, ⟨[], C, [], by simp, Buf.nil _ _, hC, Buf.nil _ _⟩, (S.perm (Bs := [A1, _, C]) (zAi (by repeat (first | exact pk1 | apply zAc)) (zAi (by repeat (first | exact pk1 | apply zAc)) (zAi (by repeat (first | exact pk1 | apply zAc)) (zAo _))))).tr⟩
theorem take4_ret : Ret Tryz.prog 63 #[ptr p, ptr b] w0 fun _ w' => ∃ A' D pv kv dv, RdC 108 p (take4 k s).2 A' ∧ RecOw D (take4 k s).1 pv kv dv ∧ Trs w0 w' [A, [(b, cel ((zDf k).cells nilv nilv nilv) 26)]] [A', [(b, cel ((take4 k s).1.cells pv kv dv) 26)], D] := by
  have S := St.begin H
  have hn : (s.num 4).1 < 4294967296 := zEh _ 4
  refine zCg 15 Tryz.func63 rfl rfl (by decide) ?_; intro a E
  refine zAa ?_
  iterate 3 (refine zp E (zAd E rfl rfl) ?_; clear E a; intro a E)
  refine zAn E rfl rfl (by decide) rfl Tryz.func44 rfl (by kernel_rfl) rfl (zDu p s A _ hA (S.hp.sel (zAi (by repeat (first | exact pk1 | apply zAc)) (zAo _))) 4) ?_
  rintro v7 w ⟨A1, rfl, hA1, hT⟩; clear E a; intro a E
  have S := S.call1 (zAi (by repeat (first | exact pk1 | apply zAc)) (zAo _)) hT
  refine zp E (by first | exact zBi E rfl rfl rfl rfl (by first | exact wu8 _ | exact zFj (by omega) | exact zDt (by omega) | exact w_in (by omega) | exact zCb (by omega) | exact rfl) | exact zBz E rfl rfl rfl rfl rfl (by assumption) (S.stab.at (by simp))) ?_; clear E a; intro a E
  refine zp E (zAd E rfl rfl) ?_; clear E a; intro a E
  refine zAn E rfl rfl (by decide) rfl Tryz.func60 rfl (by kernel_rfl) rfl (keep_ret p _ A1 hA1 2 1 (by omega) (by omega) _ (S.hp.sel (zAi (by repeat (first | exact pk1 | apply zAc)) (zAo _)))) ?_
  rintro v10 w ⟨A2, C, hA2, hC, hT⟩; clear E a; intro a E
  have S := S.call2 (zAi (by repeat (first | exact pk1 | apply zAc)) (zAo _)) hT; obtain ⟨ad, c, rfl⟩ := hC.slice
  refine zp E (zBb E rfl rfl) ?_; clear E a; intro a E
  refine zp E (by first | exact zAg (q := 8) E rfl rfl rfl | exact zAh (q := 8) E rfl rfl rfl) ?_; clear E a; intro a E
  refine zAm rfl (zBk E S rfl rfl rfl rfl rfl rfl (by repeat (first | exact pk1 | apply zAc)) (by first | exact Nat.le_of_ble_eq_true rfl | (simp; done) | (simp; omega)) ?_); clear E S a; intro a w E S; try dsimp only [List.set] at S
  refine zp E (zBb E rfl rfl) ?_; clear E a; intro a E
  refine zp E (by first | exact zAg (q := 11) E rfl rfl rfl | exact zAh (q := 11) E rfl rfl rfl) ?_; clear E a; intro a E
  refine zAm rfl (zBk E S rfl rfl rfl rfl rfl rfl (by repeat (first | exact pk1 | apply zAc)) (by first | exact Nat.le_of_ble_eq_true rfl | (simp; done) | (simp; omega)) ?_); clear E S a; intro a w E S; try dsimp only [List.set] at S
  refine wpList_nil ?_
  refine end0 E rfl ?_
  exact ⟨_, rfl, A2, C, nilv, _, nilv, hA2, ⟨[], C, [], by simp, Buf.nil _ _, hC, Buf.nil _ _⟩, (S.perm (Bs := [A2, _, C]) (zAi (by repeat (first | exact pk1 | apply zAc)) (zAi (by repeat (first | exact pk1 | apply zAc)) (zAi (by repeat (first | exact pk1 | apply zAc)) (zAo _))))).tr⟩
theorem take5_ret : Ret Tryz.prog 67 #[ptr p, ptr b] w0 fun _ w' => ∃ A' D pv kv dv, RdC 108 p (zJn k s).2 A' ∧ RecOw D (zJn k s).1 pv kv dv ∧ Trs w0 w' [A, [(b, cel ((zDf k).cells nilv nilv nilv) 26)]] [A', [(b, cel ((zJn k s).1.cells pv kv dv) 26)], D] := by
  have S := St.begin H
  have hn : (s.num 4).1 < 4294967296 := zEh _ 4
  have hn2 : ((s.num 4).2.num 2).1 < 65536 := zEh _ 2
  have hn3 : (((s.num 4).2.num 2).2.num 2).1 < 65536 := zEh _ 2
  refine zCg 25 Tryz.func67 rfl rfl (by decide) ?_; intro a E
  refine wp_seq_k ?_; intro K hK
  refine zAa ?_
  iterate 3 (refine zp E (zAd E rfl rfl) ?_; clear E a; intro a E)
  refine zAn E rfl rfl (by decide) rfl Tryz.func44 rfl (by kernel_rfl) rfl (zDu p s A _ hA (S.hp.sel (zAi (by repeat (first | exact pk1 | apply zAc)) (zAo _))) 4) ?_
  rintro v7 w ⟨A1, rfl, hA1, hT⟩; clear E a; intro a E
  have S := S.call1 (zAi (by repeat (first | exact pk1 | apply zAc)) (zAo _)) hT
  refine zp E (by first | exact zBi E rfl rfl rfl rfl (by first | exact wu8 _ | exact zFj (by omega) | exact zDt (by omega) | exact w_in (by omega) | exact zCb (by omega) | exact rfl) | exact zBz E rfl rfl rfl rfl rfl (by assumption) (S.stab.at (by simp))) ?_; clear E a; intro a E
  refine zp E (zAd E rfl rfl) ?_; clear E a; intro a E
  refine zAn E rfl rfl (by decide) rfl Tryz.func44 rfl (by kernel_rfl) rfl (zDu p _ A1 _ hA1 (S.hp.sel (zAi (by repeat (first | exact pk1 | apply zAc)) (zAo _))) 2) ?_
  rintro v10 w ⟨A2, rfl, hA2, hT⟩; clear E a; intro a E
  have S := S.call1 (zAi (by repeat (first | exact pk1 | apply zAc)) (zAo _)) hT
  refine zp E (by first | exact zBi E rfl rfl rfl rfl (by first | exact wu8 _ | exact zFj (by omega) | exact zDt (by omega) | exact w_in (by omega) | exact zCb (by omega) | exact rfl) | exact zBz E rfl rfl rfl rfl rfl (by assumption) (S.stab.at (by simp))) ?_; clear E a; intro a E
  refine zp E (zEw E rfl rfl rfl (w_in (by omega))) ?_; clear E a; intro a E
  refine zp E (zBb E rfl rfl) ?_; clear E a; intro a E
  refine zp E (by first | exact zAg (q := 8) E rfl rfl rfl | exact zAh (q := 8) E rfl rfl rfl) ?_; clear E a; intro a E
  refine zAm rfl (zBk E S rfl rfl rfl rfl rfl rfl (by repeat (first | exact pk1 | apply zAc)) (by first | exact Nat.le_of_ble_eq_true rfl | (simp; done) | (simp; omega)) ?_); clear E S a; intro a w E S; try dsimp only [List.set] at S
  refine zp E (zBb E rfl rfl) ?_; clear E a; intro a E
  refine zp E (by first | exact zAg (q := 9) E rfl rfl rfl | exact zAh (q := 9) E rfl rfl rfl) ?_; clear E a; intro a E
  refine zAm rfl (zBk E S rfl rfl rfl rfl rfl rfl (by repeat (first | exact pk1 | apply zAc)) (by first | exact Nat.le_of_ble_eq_true rfl | (simp; done) | (simp; omega)) ?_); clear E S a; intro a w E S; try dsimp only [List.set] at S
  refine wpList_nil ?_
  refine zAf hK ?_; clear hK; clear K
  refine zAa ?_
  iterate 3 (refine zp E (zAd E rfl rfl) ?_; clear E a; intro a E)
  refine zAn E rfl rfl (by decide) rfl Tryz.func44 rfl (by kernel_rfl) rfl (zDu p _ A2 _ hA2 (S.hp.sel (zAi (by repeat (first | exact pk1 | apply zAc)) (zAo _))) 2) ?_
  rintro v20 w ⟨A3, rfl, hA3, hT⟩; clear E a; intro a E
  have S := S.call1 (zAi (by repeat (first | exact pk1 | apply zAc)) (zAo _)) hT
  refine zp E (by first | exact zBi E rfl rfl rfl rfl (by first | exact wu8 _ | exact zFj (by omega) | exact zDt (by omega) | exact w_in (by omega) | exact zCb (by omega) | exact rfl) | exact zBz E rfl rfl rfl rfl rfl (by assumption) (S.stab.at (by simp))) ?_; clear E a; intro a E
  refine zAn E rfl rfl (by decide) rfl Tryz.func68 rfl (by kernel_rfl) rfl (rbytes_ret p _ A3 _ hA3 (S.hp.sel (zAi (by repeat (first | exact pk1 | apply zAc)) (zAo _))) (((s.num 4).2.num 2).2.num 2).1 (by omega)) ?_
  rintro v22 w ⟨A4, C, hA4, hT, hC⟩; clear E a; intro a E
  have S := S.call2 (zAi (by repeat (first | exact pk1 | apply zAc)) (zAo _)) hT; obtain ⟨ad, c, rfl⟩ := hC.slice
  refine zp E (zBb E rfl rfl) ?_; clear E a; intro a E
  refine zp E (by first | exact zAg (q := 12) E rfl rfl rfl | exact zAh (q := 12) E rfl rfl rfl) ?_; clear E a; intro a E
  refine zAm rfl (zBk E S rfl rfl rfl rfl rfl rfl (by repeat (first | exact pk1 | apply zAc)) (by first | exact Nat.le_of_ble_eq_true rfl | (simp; done) | (simp; omega)) ?_); clear E S a; intro a w E S; try dsimp only [List.set] at S
  refine wpList_nil ?_
  refine end0 E rfl ?_
  exact ⟨_, rfl, A4, C, nilv, nilv, _, hA4, ⟨[], [], C, by simp, Buf.nil _ _, Buf.nil _ _, hC⟩, (S.perm (Bs := [A4, _, C]) (zAi (by repeat (first | exact pk1 | apply zAc)) (zAi (by repeat (first | exact pk1 | apply zAc)) (zAi (by repeat (first | exact pk1 | apply zAc)) (zAo _))))).tr⟩
theorem take6_ret : Ret Tryz.prog 101 #[ptr p, ptr b] w0 fun _ w' => ∃ A' D pv kv dv, RdC 108 p (take6 k s).2 A' ∧ RecOw D (take6 k s).1 pv kv dv ∧ Trs w0 w' [A, [(b, cel ((zDf k).cells nilv nilv nilv) 26)]] [A', [(b, cel ((take6 k s).1.cells pv kv dv) 26)], D] := by
  have S := St.begin H
  have hn : (s.num 4).1 < 4294967296 := zEh _ 4
  refine zCg 10 Tryz.func101 rfl rfl (by decide) ?_; intro a E
  refine zAa ?_
  iterate 2 (refine zp E (zAd E rfl rfl) ?_; clear E a; intro a E)
  refine zAn E rfl rfl (by decide) rfl Tryz.func44 rfl (by kernel_rfl) rfl (zDu p s A _ hA (S.hp.sel (zAi (by repeat (first | exact pk1 | apply zAc)) (zAo _))) 4) ?_
  rintro v6 w ⟨A1, rfl, hA1, hT⟩; clear E a; intro a E
  have S := S.call1 (zAi (by repeat (first | exact pk1 | apply zAc)) (zAo _)) hT
  refine zp E (by first | exact zBi E rfl rfl rfl rfl (by first | exact wu8 _ | exact zFj (by omega) | exact zDt (by omega) | exact w_in (by omega) | exact zCb (by omega) | exact rfl) | exact zBz E rfl rfl rfl rfl rfl (by assumption) (S.stab.at (by simp))) ?_; clear E a; intro a E
  refine zp E (zBb E rfl rfl) ?_; clear E a; intro a E
  refine zp E (by first | exact zAg (q := 10) E rfl rfl rfl | exact zAh (q := 10) E rfl rfl rfl) ?_; clear E a; intro a E
  refine zAm rfl (zBk E S rfl rfl rfl rfl rfl rfl (by repeat (first | exact pk1 | apply zAc)) (by first | exact Nat.le_of_ble_eq_true rfl | (simp; done) | (simp; omega)) ?_); clear E S a; intro a w E S; try dsimp only [List.set] at S
  refine wpList_nil ?_
  refine end0 E rfl ?_
  exact ⟨_, rfl, A1, [], nilv, nilv, nilv, hA1, ⟨[], [], [], rfl, Buf.nil _ _, Buf.nil _ _, Buf.nil _ _⟩, (S.addNil.perm (Bs := [A1, _, []]) (zAi (by repeat (first | exact pk1 | apply zAc)) (zAi (by repeat (first | exact pk1 | apply zAc)) (zAi (by repeat (first | exact pk1 | apply zAc)) (zAo _))))).tr⟩
end
end Go.Proofs.YtbogecljkaimdaaGreatDoor
namespace Go.Proofs.YtbogecljkaimdaaGreatDoor
open Go.Sl
set_option maxRecDepth 10000
section
variable (p b : Nat) (k : Int) (s : Rdr) (A : zAs) (hA : RdC 108 p s A) (w0 : World) (H : Hp w0 [A, [(b, cel ((zDf k).cells nilv nilv nilv) 26)]])
include hA H
theorem take2_ret : Ret Tryz.prog 95 #[ptr p, ptr b] w0 fun _ w' => ∃ A' D pv kv dv, RdC 108 p (zJv k s).2 A' ∧ RecOw D (zJv k s).1 pv kv dv ∧ Trs w0 w' [A, [(b, cel ((zDf k).cells nilv nilv nilv) 26)]] [A', [(b, cel ((zJv k s).1.cells pv kv dv) 26)], D] := by
  have S := St.begin H
  obtain ⟨x0, h0⟩ : ∃ x, x = s.text 240 := ⟨_, rfl⟩
  obtain ⟨x1, h1⟩ : ∃ x, x = x0.2.num 1 := ⟨_, rfl⟩
  obtain ⟨x2, h2⟩ : ∃ x, x = x1.2.num 6 := ⟨_, rfl⟩
  obtain ⟨x3, h3⟩ : ∃ x, x = x2.2.num 6 := ⟨_, rfl⟩
  obtain ⟨x4, h4⟩ : ∃ x, x = x3.2.num 1 := ⟨_, rfl⟩
  obtain ⟨x5, h5⟩ : ∃ x, x = x4.2.text 24 := ⟨_, rfl⟩
  obtain ⟨x6, h6⟩ : ∃ x, x = x5.2.num 1 := ⟨_, rfl⟩
  have n1 : x1.1 < 256 := by rw [h1]; exact zEh _ 1
  have n2 : x2.1 < 281474976710656 := by rw [h2]; exact zEh _ 6
  have n3 : x3.1 < 281474976710656 := by rw [h3]; exact zEh _ 6
  have n4 : x4.1 < 256 := by rw [h4]; exact zEh _ 1
  have n6 : x6.1 < 256 := by rw [h6]; exact zEh _ 1
  obtain ⟨r1, hr1⟩ : ∃ r1 : Rec, r1 = { zDf k with name := x0.1, typ := x1.1, frm := x2.1, guid := x3.1, origin := x4.1, snap := x5.1 } := ⟨_, rfl⟩
  have htk : zJv k s = ({ r1 with props := (prpS x6.2 x6.1).1 }, (prpS x6.2 x6.1).2) := by rw [hr1, h6, h5, h4, h3, h2, h1, h0]; rfl
  have hcl : ∀ v, r1.cells v nilv nilv = [.int .i64 k, str x0.1, .int .i64 x1.1, .int .i64 x2.1, .int .i64 x3.1, .int .i64 x4.1, str x5.1, v, .int .i64 0, .int .i64 0, .int .i64 0, nilv, nilv] := fun v => by rw [hr1]; rfl
  refine zCg 57 Tryz.func95 rfl rfl (by decide) ?_; intro a E
  refine wp_seq_k ?_; intro K hK
  refine zAa ?_
  iterate 2 (refine zp E (zAd E rfl rfl) ?_; clear E a; intro a E)
  refine zAn E rfl rfl (by decide) rfl Tryz.func53 rfl (by kernel_rfl) rfl (zGe p s A _ hA (S.hp.sel (zAi (by repeat (first | exact pk1 | apply zAc)) (zAo _))) 240) ?_
  rintro v6 w ⟨A1, rfl, hA1, hT⟩; clear E a; intro a E
  replace S := S.call1 (zAi (by repeat (first | exact pk1 | apply zAc)) (zAo _)) hT; rw [← h0] at E hA1
  refine zp E (zBb E rfl rfl) ?_; clear E a; intro a E
  refine zp E (by first | exact zAg (q := 1) E rfl rfl rfl | exact zAh (q := 1) E rfl rfl rfl) ?_; clear E a; intro a E
  refine zAm rfl (zBk E S rfl rfl rfl rfl rfl rfl (by repeat (first | exact pk1 | apply zAc)) (by first | exact Nat.le_of_ble_eq_true rfl | (simp; done) | (simp; omega)) ?_); clear E S a; intro a w E S; try dsimp only [List.set] at S
  refine wpList_nil ?_
  refine zAf hK ?_; clear hK; clear K
  refine wp_seq_k ?_; intro K hK
  refine zAa ?_
  iterate 5 (refine zp E (zAd E rfl rfl) ?_; clear E a; intro a E)
  refine zAn E rfl rfl (by decide) rfl Tryz.func44 rfl (by kernel_rfl) rfl (zDu p _ A1 _ hA1 (S.hp.sel (zAi (by repeat (first | exact pk1 | apply zAc)) (zAo _))) 1) ?_
  rintro v14 w ⟨A2, rfl, hA2, hT⟩; clear E a; intro a E
  replace S := S.call1 (zAi (by repeat (first | exact pk1 | apply zAc)) (zAo _)) hT; rw [← h1] at E hA2
  refine zp E (by first | exact zBi E rfl rfl rfl rfl (by first | exact wu8 _ | exact zFj (by omega) | exact zDt (by omega) | exact w_in (by omega) | exact zCb (by omega) | exact rfl) | exact zBz E rfl rfl rfl rfl rfl (by assumption) (S.stab.at (by simp))) ?_; clear E a; intro a E
  refine zp E (zAd E rfl rfl) ?_; clear E a; intro a E
  refine zAn E rfl rfl (by decide) rfl Tryz.func44 rfl (by kernel_rfl) rfl (zDu p _ A2 _ hA2 (S.hp.sel (zAi (by repeat (first | exact pk1 | apply zAc)) (zAo _))) 6) ?_
  rintro v17 w ⟨A3, rfl, hA3, hT⟩; clear E a; intro a E
  replace S := S.call1 (zAi (by repeat (first | exact pk1 | apply zAc)) (zAo _)) hT; rw [← h2] at E hA3
  refine zp E (by first | exact zBi E rfl rfl rfl rfl (by first | exact wu8 _ | exact zFj (by omega) | exact zDt (by omega) | exact w_in (by omega) | exact zCb (by omega) | exact rfl) | exact zBz E rfl rfl rfl rfl rfl (by assumption) (S.stab.at (by simp))) ?_; clear E a; intro a E
  refine zp E (zAd E rfl rfl) ?_; clear E a; intro a E
  refine zAn E rfl rfl (by decide) rfl Tryz.func44 rfl (by kernel_rfl) rfl (zDu p _ A3 _ hA3 (S.hp.sel (zAi (by repeat (first | exact pk1 | apply zAc)) (zAo _))) 6) ?_
  rintro v20 w ⟨A4, rfl, hA4, hT⟩; clear E a; intro a E
  replace S := S.call1 (zAi (by repeat (first | exact pk1 | apply zAc)) (zAo _)) hT; rw [← h3] at E hA4
  refine zp E (by first | exact zBi E rfl rfl rfl rfl (by first | exact wu8 _ | exact zFj (by omega) | exact zDt (by omega) | exact w_in (by omega) | exact zCb (by omega) | exact rfl) | exact zBz E rfl rfl rfl rfl rfl (by assumption) (S.stab.at (by simp))) ?_; clear E a; intro a E
  refine zp E (zAd E rfl rfl) ?_; clear E a; intro a E
  refine zAn E rfl rfl (by decide) rfl Tryz.func44 rfl (by kernel_rfl) rfl (zDu p _ A4 _ hA4 (S.hp.sel (zAi (by repeat (first | exact pk1 | apply zAc)) (zAo _))) 1) ?_
  rintro v23 w ⟨A5, rfl, hA5, hT⟩; clear E a; intro a E
  replace S := S.call1 (zAi (by repeat (first | exact pk1 | apply zAc)) (zAo _)) hT; rw [← h4] at E hA5
  refine zp E (by first | exact zBi E rfl rfl rfl rfl (by first | exact wu8 _ | exact zFj (by omega) | exact zDt (by omega) | exact w_in (by omega) | exact zCb (by omega) | exact rfl) | exact zBz E rfl rfl rfl rfl rfl (by assumption) (S.stab.at (by simp))) ?_; clear E a; intro a E
  refine zp E (zBb E rfl rfl) ?_; clear E a; intro a E
  refine zp E (by first | exact zAg (q := 2) E rfl rfl rfl | exact zAh (q := 2) E rfl rfl rfl) ?_; clear E a; intro a E
  refine zAm rfl (zBk E S rfl rfl rfl rfl rfl rfl (by repeat (first | exact pk1 | apply zAc)) (by first | exact Nat.le_of_ble_eq_true rfl | (simp; done) | (simp; omega)) ?_); clear E S a; intro a w E S; try dsimp only [List.set] at S
  refine zp E (zBb E rfl rfl) ?_; clear E a; intro a E
  refine zp E (by first | exact zAg (q := 3) E rfl rfl rfl | exact zAh (q := 3) E rfl rfl rfl) ?_; clear E a; intro a E
  refine zAm rfl (zBk E S rfl rfl rfl rfl rfl rfl (by repeat (first | exact pk1 | apply zAc)) (by first | exact Nat.le_of_ble_eq_true rfl | (simp; done) | (simp; omega)) ?_); clear E S a; intro a w E S; try dsimp only [List.set] at S
  refine zp E (zBb E rfl rfl) ?_; clear E a; intro a E
  refine zp E (by first | exact zAg (q := 4) E rfl rfl rfl | exact zAh (q := 4) E rfl rfl rfl) ?_; clear E a; intro a E
  refine zAm rfl (zBk E S rfl rfl rfl rfl rfl rfl (by repeat (first | exact pk1 | apply zAc)) (by first | exact Nat.le_of_ble_eq_true rfl | (simp; done) | (simp; omega)) ?_); clear E S a; intro a w E S; try dsimp only [List.set] at S
  refine zp E (zBb E rfl rfl) ?_; clear E a; intro a E
  refine zp E (by first | exact zAg (q := 5) E rfl rfl rfl | exact zAh (q := 5) E rfl rfl rfl) ?_; clear E a; intro a E
  refine zAm rfl (zBk E S rfl rfl rfl rfl rfl rfl (by repeat (first | exact pk1 | apply zAc)) (by first | exact Nat.le_of_ble_eq_true rfl | (simp; done) | (simp; omega)) ?_); clear E S a; intro a w E S; try dsimp only [List.set] at S
  refine wpList_nil ?_
  refine zAf hK ?_; clear hK; clear K
  refine wp_seq_k ?_; intro K hK
  replace E := E.keep (e' := [(0, _), (1, _)]) (zAb rfl (zAb rfl (zAr)))
  refine zAa ?_
  iterate 2 (refine zp E (zAd E rfl rfl) ?_; clear E a; intro a E)
  refine zAn E rfl rfl (by decide) rfl Tryz.func53 rfl (by kernel_rfl) rfl (zGe p _ A5 _ hA5 (S.hp.sel (zAi (by repeat (first | exact pk1 | apply zAc)) (zAo _))) 24) ?_
  rintro v35 w ⟨A6, rfl, hA6, hT⟩; clear E a; intro a E
  replace S := S.call1 (zAi (by repeat (first | exact pk1 | apply zAc)) (zAo _)) hT; rw [← h5] at E hA6
  refine zp E (zBb E rfl rfl) ?_; clear E a; intro a E
  refine zp E (by first | exact zAg (q := 6) E rfl rfl rfl | exact zAh (q := 6) E rfl rfl rfl) ?_; clear E a; intro a E
  refine zAm rfl (zBk E S rfl rfl rfl rfl rfl rfl (by repeat (first | exact pk1 | apply zAc)) (by first | exact Nat.le_of_ble_eq_true rfl | (simp; done) | (simp; omega)) ?_); clear E S a; intro a w E S; try dsimp only [List.set] at S
  refine wpList_nil ?_
  refine zAf hK ?_; clear hK; clear K
  refine wp_seq_k ?_; intro K hK
  refine zAa ?_
  refine zp E (zAd E rfl rfl) ?_; clear E a; intro a E
  refine zAn E rfl rfl (by decide) rfl Tryz.func44 rfl (by kernel_rfl) rfl (zDu p _ A6 _ hA6 (S.hp.sel (zAi (by repeat (first | exact pk1 | apply zAc)) (zAo _))) 1) ?_
  rintro v39 w ⟨A7, rfl, hA7, hT⟩; clear E a; intro a E
  replace S := S.call1 (zAi (by repeat (first | exact pk1 | apply zAc)) (zAo _)) hT; rw [← h6] at E hA7
  refine zp E (zAd E rfl rfl) ?_; clear E a; intro a E
  refine wpList_nil ?_
  refine zAf hK ?_; clear hK; clear K
  refine wp_block ?_
  refine wp_loop_ghost (fun (m : Nat) (a : Act) (w' : World) => ∃ (i : Nat) (A' D1 : zAs) (v : Value), m = x6.1 - i ∧ i ≤ x6.1 ∧ RdC 108 p (prpS x6.2 i).2 A' ∧ Buf D1 70 2 v i ((prpS x6.2 i).1.flatMap Prp.lay) ∧ St w0 [A, [(b, cel ((zDf k).cells nilv nilv nilv) 26)]] w' [A', [(b, cel [.int .i64 k, str x0.1, .int .i64 x1.1, .int .i64 x2.1, .int .i64 x3.1, .int .i64 x4.1, str x5.1, v, .int .i64 0, .int .i64 0, .int .i64 0, nilv, nilv] 26)], D1] ∧ Fr a 57 [(0, ptr p), (1, ptr b), (39, .int .u64 x6.1), (40, .int .u64 i)]) (x6.1) ?_ ?_
  · exact ⟨0, A7, [], nilv, by omega, by omega, hA7, Buf.nil _ _, S.addNil.perm (Bs := [A7, _, []]) (zAi (by repeat (first | exact pk1 | apply zAc)) (zAi (by repeat (first | exact pk1 | apply zAc)) (zAi (by repeat (first | exact pk1 | apply zAc)) (zAo _)))), E.keep (zAb rfl (zAb rfl (zAb rfl (zAb rfl zAr))))⟩
  clear E; clear a; (try clear S); rintro m a w ⟨i, A', D1, v, rfl, hi, hA', hB, S, E⟩
  refine wp_seq_k ?_; intro K hK
  refine zAa ?_
  refine zp E (zCw E rfl rfl rfl) ?_; clear E a; intro a E
  refine wpList_nil ?_
  refine zAf hK ?_; clear hK; clear K
  refine wp_seq_k ?_; intro K hK
  refine zBj E rfl (fun hb => ?_) (fun hb => ?_)
  · replace hb := Nrm.nrm hb
    refine wp_skip ?_
    refine zAf hK ?_; clear hK; clear K
    refine wp_seq_k ?_; intro K hK
    refine wp_block ?_
    obtain ⟨adv, cv, rfl⟩ := hB.slice
    refine zDm S (.ofL [(0, 0), (1, 0), (2, 0), (3, 0), (4, 0), (5, 0), (7, 0), (6, 1), (8, 1), (9, 0), (10, 1), (11, 1), (12, 0), (13, 0), (14, 3)]) [[(b, cel [.int .i64 k, str x0.1, .int .i64 x1.1, .int .i64 x2.1, .int .i64 x3.1, .int .i64 x4.1, str x5.1, .slice adv i cv, .int .i64 0, .int .i64 0, .int .i64 0, nilv, nilv] 26)]] (fun h => h.sub (by first | (simp; done) | (simp +contextual; done) | (simp [*]; done))) (by kernel_rfl) (by kernel_rfl) ?_
    clear S; intro w S
    iterate 2 (refine zm E rfl (fun w h => zAd E rfl rfl) ?_; clear E a; intro a E)
    refine zm E rfl (fun w h => zBb E rfl rfl) ?_; clear E a; intro a E
    refine zm E rfl (fun w h => by first | exact zAg (q := 7) E rfl rfl rfl | exact zAh (q := 7) E rfl rfl rfl) ?_; clear E a; intro a E
    refine zm E rfl (fun w h => by first | exact zAq E rfl rfl rfl (h.one (by repeat (first | exact mm1 | assumption | apply List.Mem.tail))) rfl | exact zAl E rfl rfl rfl (by assumption)) ?_; clear E a; intro a E
    iterate 2 (refine zm E rfl (fun w h => zAd E rfl rfl) ?_; clear E a; intro a E)
    refine zCn E rfl rfl rfl (by decide) rfl Tryz.func53 rfl (by kernel_rfl) rfl (zGe p _ A' _ hA' (S.hp.sel (zAi (by repeat (first | exact pk1 | apply zAc)) (zAo _))) 24) ?_
    rintro v48 w ⟨B1, rfl, hB1, hT⟩; clear E a; intro a E
    replace S := S.call1 (zAi (by repeat (first | exact pk1 | apply zAc)) (zAo _)) hT; obtain ⟨y, hy⟩ : ∃ y, y = (prpS x6.2 i).2.text 24 := ⟨_, rfl⟩; rw [← hy] at E hB1
    refine ⟨S.stab.sub (by first | (simp; done) | (simp +contextual; done) | (simp [*]; done)), ?_⟩
    refine zCn E rfl rfl rfl (by decide) rfl Tryz.func53 rfl (by kernel_rfl) rfl (zGe p _ B1 _ hB1 (S.hp.sel (zAi (by repeat (first | exact pk1 | apply zAc)) (zAo _))) 64) ?_
    rintro v50 w ⟨B2, rfl, hB2, hT⟩; clear E a; intro a E
    replace S := S.call1 (zAi (by repeat (first | exact pk1 | apply zAc)) (zAo _)) hT; obtain ⟨z, hz⟩ : ∃ z, z = y.2.text 64 := ⟨_, rfl⟩; rw [← hz] at E hB2
    refine ⟨S.stab.sub (by first | (simp; done) | (simp +contextual; done) | (simp [*]; done)), ?_⟩
    refine zm E rfl (fun w h => zCv (cells := [_, _]) E rfl rfl rfl) ?_; clear E a; intro a E
    refine zDg rfl rfl (zEs (cells := [_, _]) E S rfl rfl (by decide) rfl rfl rfl rfl rfl (by decide) rfl ?_); clear E S a; intro a w b52 E S; refine ⟨S.stab.sub (by first | (simp; done) | (simp +contextual; done) | (simp [*]; done)), ?_⟩
    refine zDg rfl rfl (zDi (by' := 32) E S rfl rfl (by decide) rfl rfl hB (by repeat (first | exact pk1 | apply zAc)) ((zGm (g := b52) (T := 70) (xs := [str y.1, str z.1]) (s := 2) (m := 1) rfl (by simp [Value.oneCell']) (by omega) 1).src (S.stab.at (by repeat (first | exact mm1 | assumption | apply List.Mem.tail))) rfl) rfl rfl rfl rfl rfl rfl (by simp only [maxLen]; omega) (by omega) ?_); clear E S a; intro a w v53 C53 E S hB53; refine ⟨S.stab.sub (by first | (simp; done) | (simp +contextual; done) | (simp [*]; done)), ?_⟩
    obtain ⟨ad2, c2, rfl⟩ := hB53.slice
    refine zm E rfl (fun w h => zBb E rfl rfl) ?_; clear E a; intro a E
    refine zm E rfl (fun w h => by first | exact zAg (q := 7) E rfl rfl rfl | exact zAh (q := 7) E rfl rfl rfl) ?_; clear E a; intro a E
    refine zCy rfl rfl (zBk E S rfl rfl rfl rfl rfl rfl (by repeat (first | exact pk1 | apply zAc)) (by first | exact Nat.le_of_ble_eq_true rfl | (simp; done) | (simp; omega)) ?_); clear E S a; intro a w E S; try dsimp only [List.set] at S
    refine zCd ?_
    refine zBo ?_
    refine zAf hK ?_; clear hK; clear K
    refine zAa ?_
    refine zp E (zCc E rfl rfl rfl (by first | exact zCt (y := 1) (by omega) | exact w_in (by omega) | exact zCb (by omega) | exact rfl)) ?_; clear E a; intro a E
    refine zp E (zAd E rfl rfl) ?_; clear E a; intro a E
    refine wpList_nil ?_
    refine zBn ?_
    have hps : prpS x6.2 (i + 1) = ((prpS x6.2 i).1 ++ [⟨y.1, z.1⟩], z.2) := by rw [prpS, ← hy, ← hz]
    have hB2' : Buf C53 70 2 (.slice ad2 (i + 1) c2) (i + 1) ((prpS x6.2 (i + 1)).1.flatMap Prp.lay) := by
      rw [hps, List.flatMap_append]; exact hB53
    exact ⟨_, by omega, i + 1, B2, C53, _, rfl, by omega, by rw [hps]; exact hB2, hB2', S.only (Bs := [B2, [(b, _)], C53]) (zAi (by repeat (first | exact pk1 | apply zAc)) (zAi (by repeat (first | exact pk1 | apply zAc)) (zAi (by repeat (first | exact pk1 | apply zAc)) (zAo _)))), E.keep (zAb rfl (zAb rfl (zAb rfl (zAb rfl zAr))))⟩
  · replace hb := Nrm.nrm hb
    refine wp_exit ?_
    refine zBf ?_; clear hK; clear K
    refine zBf ?_
    refine zCr ?_
    refine end0 E rfl ?_
    obtain rfl : i = x6.1 := by omega
    rw [htk]
    subst hr1
    exact ⟨_, rfl, A', D1, v, nilv, nilv, hA', ⟨D1, [], [], by simp, by show Buf D1 _ 2 v (prpS x6.2 x6.1).1.length _; rw [prpS_len]; exact hB, Buf.nil _ _, Buf.nil _ _⟩, S.tr⟩
omit hA H in
theorem takF_fn {k : Int} (h : inK k) : ∃ fn : Func, Tryz.prog.funcs[takF k]? = some fn ∧ fn.body.isSome = true ∧ (fn.name == "runtime.NumGoroutine") = false := by
  rcases zEd h with rfl | rfl | rfl | rfl | rfl | rfl | rfl
  · exact ⟨_, Tryz.func52, rfl, by kernel_rfl⟩
  · exact ⟨_, Tryz.func95, rfl, by kernel_rfl⟩
  · exact ⟨_, Tryz.func59, rfl, by kernel_rfl⟩
  · exact ⟨_, Tryz.func63, rfl, by kernel_rfl⟩
  · exact ⟨_, Tryz.func67, rfl, by kernel_rfl⟩
  · exact ⟨_, Tryz.func101, rfl, by kernel_rfl⟩
  · exact ⟨_, Tryz.func101, rfl, by kernel_rfl⟩
theorem takK_ret (hk : inK k) : Ret Tryz.prog (takF k) #[ptr p, ptr b] w0 fun _ w' => ∃ A' D pv kv dv, RdC 108 p (zEb k s).2 A' ∧ RecOw D (zEb k s).1 pv kv dv ∧ Trs w0 w' [A, [(b, cel ((zDf k).cells nilv nilv nilv) 26)]] [A', [(b, cel ((zEb k s).1.cells pv kv dv) 26)], D] := by
  rcases zEd hk with rfl | rfl | rfl | rfl | rfl | rfl | rfl
  · exact take1_ret p b 1 s A hA w0 H
  · exact take2_ret p b 2 s A hA w0 H
  · exact take3_ret p b 3 s A hA w0 H
  · exact take4_ret p b 4 s A hA w0 H
  · exact take5_ret p b 5 s A hA w0 H
  · exact take6_ret p b 6 s A hA w0 H
  · exact take6_ret p b 7 s A hA w0 H
end
end Go.Proofs.YtbogecljkaimdaaGreatDoor
namespace Go.Sl
section
variable {α : Type} {T : TypeId} {s : Nat} {lay : List α → List Value}
def Inn (T : TypeId) (s : Nat) (lay : List α → List Value) : zAs → List Value → List (List α) → Prop
  | D, [], [] => D = []
  | D, v :: vs, x :: xs => ∃ C D', D = C ++ D' ∧ Buf C T s v x.length (lay x) ∧ Inn T s lay D' vs xs
  | _, _, _ => False
theorem Inn.len : ∀ {D : zAs} {vs : List Value} {xs : List (List α)}, Inn T s lay D vs xs → vs.length = xs.length
  | _, [], [], _ => rfl
  | _, _ :: _, _ :: _, ⟨_, _, _, _, h⟩ => by simp [h.len]
  | _, [], _ :: _, h => h.elim
  | _, _ :: _, [], h => h.elim
theorem Inn.nil : Inn T s lay [] [] [] := rfl
theorem Inn.one : ∀ {D : zAs} {vs : List Value} {xs : List (List α)}, Inn T s lay D vs xs → ∀ u ∈ vs, u.oneCell' = true
  | _, [], [], _ => fun u hu => by cases hu
  | _, _ :: _, _ :: _, ⟨_, _, _, hC, h⟩ => fun u hu => by
    rcases List.mem_cons.1 hu with rfl | hu
    · obtain ⟨ad, c, rfl⟩ := hC.slice; rfl
    · exact h.one u hu
  | _, [], _ :: _, h => h.elim
  | _, _ :: _, [], h => h.elim
theorem Inn.at : ∀ {D : zAs} {vs : List Value} {xs : List (List α)}, Inn T s lay D vs xs → ∀ {i : Nat} (hi : i < xs.length),
    ∃ A C B v, D = A ++ (C ++ B) ∧ vs[i]? = some v ∧ Buf C T s v xs[i].length (lay xs[i]) ∧ ∀ C' v' x', Buf C' T s v' x'.length (lay x') → Inn T s lay (A ++ (C' ++ B)) (vs.set i v') (xs.set i x')
  | _, v :: vs, x :: xs, ⟨C, D', e, hC, h⟩, 0, _ => ⟨[], C, D', v, by simpa using e, rfl, hC, fun C' v' x' hC' => ⟨C', D', by simp, hC', h⟩⟩
  | _, v :: vs, x :: xs, ⟨C, D', e, hC, h⟩, i + 1, hi => by
    obtain ⟨A, C2, B, v2, e2, hv, hB, hk⟩ := h.at (i := i) (by simpa using hi)
    refine ⟨C ++ A, C2, B, v2, by rw [e, e2, List.append_assoc], hv, hB, fun C' v' x' hC' => ?_⟩
    exact ⟨C, A ++ (C' ++ B), by rw [List.append_assoc], hC, hk C' v' x' hC'⟩
  | _, [], [], _, _, hi => absurd hi (by simp)
  | _, [], _ :: _, h, _, _ => h.elim
  | _, _ :: _, [], h, _, _ => h.elim
theorem Inn.rd {D : zAs} {vs : List Value} {xs : List (List α)} (h : Inn T s lay D vs xs) {i : Nat} (hi : i < xs.length) : ∃ v, vs[i]? = some v ∧ Rd D s v xs[i].length (lay xs[i]) := by
  obtain ⟨A, C, B, v, rfl, hv, hC, -⟩ := h.at hi
  exact ⟨v, hv, hC.rd.sub fun x hx => by simp [hx]⟩
end
section
variable {w0 w : World} {As Ls : List zAs} {A B C : zAs}
end
theorem Rd.bytes {C : zAs} {ad : Option Addr} {c : Nat} {l : List UInt8} (h : Rd C 1 (.slice ad l.length c) l.length (byt l)) {lo hi mx : Nat} (h1 : lo ≤ hi) (h2 : hi ≤ l.length) (h3 : hi ≤ mx) :
    Rd C 1 (sliced ad lo hi mx 1) ((l.drop lo).take (hi - lo)).length (byt ((l.drop lo).take (hi - lo))) := by
  have h4 := h.piece rfl h1 h2 h3
  rw [Nat.mul_one, Nat.mul_one, zIk, zHh] at h4
  rwa [List.length_take, List.length_drop, Nat.min_eq_left (by omega)]
end Go.Sl
namespace Go.Proofs.YtbogecljkaimdaaGreatDoor
open Go.Sl
set_option maxRecDepth 10000
theorem equal_ret (D1 D2 : zAs) (v1 v2 : Value) (xs ys : List UInt8) (h1 : Rd D1 1 v1 xs.length (byt xs)) (h2 : Rd D2 1 v2 ys.length (byt ys)) (hl : xs.length ≤ 140737488355328) (As : List zAs) (m1 : D1 ∈ As) (m2 : D2 ∈ As) (w0 : World) (H : Hp w0 As) :
    Ret Tryz.prog 45 #[v1, v2] w0 fun u w' => u = .bool (decide (xs = ys)) ∧ Trs w0 w' As As := by
  have S := St.begin H
  obtain ⟨a1, c1, rfl⟩ := h1.slice
  obtain ⟨a2, c2, rfl⟩ := h2.slice
  refine zCg 26 Tryz.func45 rfl rfl (by decide) ?_; intro a E
  refine wp_seq_k ?_; intro K hK
  refine zAa ?_
  refine zp E (zAe E rfl rfl) ?_; clear E a; intro a E
  refine wpList_nil ?_
  refine zAf hK ?_; clear hK; clear K
  iterate 2 (refine wp_seq_k ?_; intro K hK)
  refine zAa ?_
  refine zp E (zAd E rfl rfl) ?_; clear E a; intro a E
  refine zp E (by first | exact zBv E rfl rfl rfl | exact zAx E rfl rfl rfl | exact zAp E rfl rfl rfl) ?_; clear E a; intro a E
  refine zp E (zAd E rfl rfl) ?_; clear E a; intro a E
  refine zp E (by first | exact zBv E rfl rfl rfl | exact zAx E rfl rfl rfl | exact zAp E rfl rfl rfl) ?_; clear E a; intro a E
  refine zp E (by first | exact zDa E rfl rfl rfl | exact zBc E rfl rfl rfl rfl | exact zBl E rfl rfl rfl rfl | exact zBg E rfl rfl rfl) ?_; clear E a; intro a E
  refine wpList_nil ?_
  refine zAf hK ?_; clear hK; clear K
  refine zBj E rfl (fun hb => ?_) (fun hb => ?_)
  · replace hb := Nrm.nrm hb
    refine wp_seq_k ?_; intro K hK
    refine zAa ?_
    refine zp E (zAe E rfl rfl) ?_; clear E a; intro a E
    refine wpList_nil ?_
    refine zAf hK ?_; clear hK; clear K
    refine wp_ret ?_
    refine zAv ?_; clear hK; clear K
    refine ret1 E rfl rfl ?_
    exact ⟨_, rfl, by rw [decide_eq_false (fun e => hb (by rw [e]))], S.tr⟩
  · replace hb := Nrm.nrm hb
    have hlen : xs.length = ys.length := (by omega)
    refine wp_skip ?_
    refine zAf hK ?_; clear hK; clear K
    iterate 2 (refine wp_seq_k ?_; intro K hK)
    refine zAa ?_
    refine zp E (zAd E rfl rfl) ?_; clear E a; intro a E
    refine zp E (by first | exact zBv E rfl rfl rfl | exact zAx E rfl rfl rfl | exact zAp E rfl rfl rfl) ?_; clear E a; intro a E
    refine zp E (zAd E rfl rfl) ?_; clear E a; intro a E
    refine wpList_nil ?_
    refine zAf hK ?_; clear hK; clear K
    refine wp_block ?_
    refine wp_loop_ghost (fun (m : Nat) (a : Act) (w' : World) => ∃ i : Nat, m = xs.length - i ∧ i ≤ xs.length ∧ xs.take i = ys.take i ∧ St w0 As w' As ∧ Fr a 26 [(0, .slice a1 xs.length c1), (1, .slice a2 ys.length c2), (12, .int .i64 xs.length), (13, .int .i64 i)]) (xs.length) ?_ ?_
    · exact ⟨0, by omega, by omega, rfl, S, E.keep (zAb rfl (zAb rfl (zAb rfl (zAb rfl zAr))))⟩
    clear E; clear a; (try clear S); rintro m a w ⟨i, rfl, hi, he, S, E⟩
    refine wp_seq_k ?_; intro K hK
    refine zAa ?_
    refine zp E (zCw E rfl rfl rfl) ?_; clear E a; intro a E
    refine wpList_nil ?_
    refine zAf hK ?_; clear hK; clear K
    refine wp_seq_k ?_; intro K hK
    refine zBj E rfl (fun hb => ?_) (fun hb => ?_)
    · replace hb := Nrm.nrm hb
      refine wp_skip ?_
      refine zAf hK ?_; clear hK; clear K
      refine wp_seq_k ?_; intro K hK
      refine wp_block ?_
      refine wp_seq_k ?_; intro K hK
      have hil : i < xs.length := by omega
      have hil2 : i < ys.length := by omega
      obtain ⟨b1, o1, rfl⟩ := h1.addr (by omega)
      obtain ⟨b2, o2, rfl⟩ := h2.addr (by omega)
      refine zAa ?_
      refine zp E (zAd E rfl rfl) ?_; clear E a; intro a E
      refine zp E (zAe E rfl rfl) ?_; clear E a; intro a E
      refine wpList_nil ?_
      refine zAf hK ?_; clear hK; clear K
      refine wp_seq_k ?_; intro K hK
      refine zDm S (.ofL [(0, 0), (1, 0), (2, 0), (3, 0), (4, 0), (5, 0), (6, 0), (7, 0), (8, 0)]) [D1, D2] (fun h => h.sub (by first | (simp; done) | (simp +contextual; done) | (simp [*]; done))) (by kernel_rfl) (by kernel_rfl) ?_
      clear S; intro w S
      iterate 2 (refine zm E rfl (fun w h => zAd E rfl rfl) ?_; clear E a; intro a E)
      refine zm E rfl (fun w h => by first | exact zBp E rfl rfl rfl rfl rfl rfl (by omega) | exact zBs E rfl rfl rfl rfl rfl rfl (by omega) | exact zBe E rfl rfl rfl rfl rfl rfl (by omega)) ?_; clear E a; intro a E
      refine zm E rfl (fun w h => zAl E rfl rfl rfl (h1.byte (h.at (by simp)) hil)) ?_; clear E a; intro a E
      iterate 2 (refine zm E rfl (fun w h => zAd E rfl rfl) ?_; clear E a; intro a E)
      refine zm E rfl (fun w h => by first | exact zBp E rfl rfl rfl rfl rfl rfl (by omega) | exact zBs E rfl rfl rfl rfl rfl rfl (by omega) | exact zBe E rfl rfl rfl rfl rfl rfl (by omega)) ?_; clear E a; intro a E
      refine zm E rfl (fun w h => zAl E rfl rfl rfl (h2.byte (h.at (by simp)) hil2)) ?_; clear E a; intro a E
      refine zm E rfl (fun w h => by first | exact zDa E rfl rfl rfl | exact zBc E rfl rfl rfl rfl | exact zBl E rfl rfl rfl rfl | exact zBg E rfl rfl rfl) ?_; clear E a; intro a E
      refine zCd ?_
      refine zAf hK ?_; clear hK; clear K
      refine zBj E rfl (fun hb => ?_) (fun hb => ?_)
      · replace hb := Nrm.nrm hb
        refine wp_seq_k ?_; intro K hK
        refine zAa ?_
        refine zp E (zAe E rfl rfl) ?_; clear E a; intro a E
        refine wpList_nil ?_
        refine zAf hK ?_; clear hK; clear K
        refine wp_ret ?_
        refine zCi ?_
        refine zAv ?_; clear hK; clear K
        refine zAv ?_
        refine zCi ?_
        refine zAv ?_; clear hK; clear K
        refine ret1 E rfl rfl ?_
        refine ⟨_, rfl, ?_, S.tr⟩
        rw [decide_eq_false]
        rintro rfl
        exact hb rfl
      · replace hb := Nrm.nrm hb
        refine wp_skip ?_
        refine zBo ?_
        refine zAf hK ?_; clear hK; clear K
        refine zAa ?_
        refine zp E (zCc E rfl rfl rfl (by first | exact zCt (y := 1) (by omega) | exact w_in (by omega) | exact zCb (by omega) | exact rfl)) ?_; clear E a; intro a E
        refine zp E (zAd E rfl rfl) ?_; clear E a; intro a E
        refine wpList_nil ?_
        refine zBn ?_
        refine ⟨_, ?_, i + 1, rfl, by omega, ?_, S, E.keep (zAb rfl (zAb rfl (zAb rfl (zAb rfl zAr))))⟩
        · omega
        · have hx : xs[i] = ys[i] := UInt8.toNat_inj.1 (by omega)
          rw [← List.take_append_getElem hil, ← List.take_append_getElem hil2, he, hx]
    · replace hb := Nrm.nrm hb
      refine wp_exit ?_
      refine zBf ?_; clear hK; clear K
      refine zBf ?_
      refine zCr ?_
      refine zAf hK ?_; clear hK; clear K
      refine wp_seq_k ?_; intro K hK
      refine zAa ?_
      refine zp E (zAe E rfl rfl) ?_; clear E a; intro a E
      refine wpList_nil ?_
      refine zAf hK ?_; clear hK; clear K
      refine wp_ret ?_
      refine ret1 E rfl rfl ?_
      obtain rfl : i = xs.length := by omega
      refine ⟨_, rfl, ?_, S.tr⟩
      rw [decide_eq_true]
      rw [List.take_length] at he
      rw [he, List.take_of_length_le (by omega)]
theorem zFw (e : Int) (As : List zAs) (w0 : World) (H : Hp w0 As) :
    Ret Tryz.prog 42 #[.int .i64 e] w0 fun u w' => u = .tuple #[.agg #[.int .i64 0, str [], .int .i64 0, .int .i64 0, .int .i64 0, .int .i64 0, str [], nilv, .int .i64 0, .int .i64 0, .int .i64 0, nilv, nilv], .int .i64 0, .agg #[.int .u64 0, .int .u64 0, .int .u64 0, .int .u64 0], .int .i64 e] ∧ Trs w0 w' As As := by
  have S := St.begin H
  refine zDh 9 Tryz.func42 rfl rfl (by decide) ?_; intro a E
  refine wp_seq_k ?_; intro K hK
  refine zAa ?_
  refine zAm rfl (zBr E S rfl rfl (by decide) rfl rfl rfl ?_); clear E S a; intro a w b2 E S
  refine zp E (zAe E rfl rfl) ?_; clear E a; intro a E
  refine zAm rfl (zBr E S rfl rfl (by decide) rfl rfl rfl ?_); clear E S a; intro a w b4 E S
  refine zp E (zAe E rfl rfl) ?_; clear E a; intro a E
  refine wpList_nil ?_
  refine zAf hK ?_; clear hK; clear K
  refine wp_seq_k ?_; intro K hK
  refine zAa ?_
  refine zp E (zCv (cells := [_, _, _, _, _, _, _, _, _, _, _, _, _]) E rfl rfl rfl) ?_; clear E a; intro a E
  refine zp E (zCv (cells := [_, _, _, _]) E rfl rfl rfl) ?_; clear E a; intro a E
  refine zp E (zAd E rfl rfl) ?_; clear E a; intro a E
  refine zAm rfl (zBd E S rfl rfl rfl rfl (by simp [Value.oneCell']) rfl (by repeat (first | exact pk1 | apply zAc)) (by simp) ?_); clear E S a; intro a w E S; simp only [List.take_succ_cons, List.take_zero, List.drop_succ_cons, List.drop_zero, List.cons_append, List.nil_append, List.append_nil, List.length_cons, List.length_nil, Nat.zero_add, Nat.add_zero] at S
  refine zp E (zAe E rfl rfl) ?_; clear E a; intro a E
  refine zAm rfl (zBd E S rfl rfl rfl rfl (by simp [Value.oneCell']) rfl (by repeat (first | exact pk1 | apply zAc)) (by simp) ?_); clear E S a; intro a w E S; simp only [List.take_succ_cons, List.take_zero, List.drop_succ_cons, List.drop_zero, List.cons_append, List.nil_append, List.append_nil, List.length_cons, List.length_nil, Nat.zero_add, Nat.add_zero] at S
  refine zp E (zAe E rfl rfl) ?_; clear E a; intro a E
  refine wpList_nil ?_
  refine zAf hK ?_; clear hK; clear K
  refine wp_ret ?_
  refine zEy E rfl rfl rfl rfl rfl (S.get (by repeat (first | exact pk1 | apply zAc))) rfl (S.get (by repeat (first | exact pk1 | apply zAc))) rfl ?_
  exact ⟨_, rfl, rfl, S.tail2.tr⟩
instance (k : Int) : Decidable (inK k) := by unfold inK; infer_instance
def zDd (b : List UInt8) : Nat := zCh (b.take 1)
def zBw (b : List UInt8) : Nat := zCh ((b.drop 1).take 4)
def zHs (e : Int) : Int × Rec × Nat × Fs := (e, zDf 0, 0, zEa)
def ownD (b : List UInt8) (s : Fs) : Fs := shaF (zFa s ++ b.take (5 + zBw b))
def zEp (b : List UInt8) : List UInt8 := (b.drop 5).take (zBw b)
noncomputable def decR (b : List UInt8) (s : Fs) : Int × Rec × Nat × Fs :=
  if b.length < 5 then zHs 10
  else if ¬ inK (zDd b) ∨ 2048 < zBw b then zHs 200
  else if b.length < 37 + zBw b then zHs 10
  else if zFa (ownD b s) ≠ (b.drop (5 + zBw b)).take 32 then zHs 201
  else if (zEb (zDd b) ⟨zEp b, 0, 0⟩).2.done ≠ 0 ∨ ckB (zEb (zDd b) ⟨zEp b, 0, 0⟩).1 = false then zHs 200
  else (0, (zEb (zDd b) ⟨zEp b, 0, 0⟩).1, 37 + zBw b, ownD b s)
theorem kindOf_lt (b : List UInt8) : zDd b < 256 := by
  have := numOf_cut b 0 1
  rwa [List.drop_zero] at this
theorem sizeOf_lt (b : List UInt8) : zBw b < 4294967296 := numOf_cut b 1 4
section
variable {b : List UInt8} {s : Fs}
theorem dec_1 (h : b.length < 5) : decR b s = zHs 10 := by unfold decR; rw [if_pos h]
theorem dec_2 (h5 : 5 ≤ b.length) (h : ¬ inK (zDd b) ∨ 2048 < zBw b) : decR b s = zHs 200 := by
  unfold decR; rw [if_neg (by omega), if_pos h]
variable (h5 : 5 ≤ b.length) (hk : inK (zDd b)) (hn : zBw b ≤ 2048)
include h5 hk hn
theorem dec_3 (h : b.length < 37 + zBw b) : decR b s = zHs 10 := by
  unfold decR; rw [if_neg (by omega), if_neg (by rintro (q | q); exact q hk; omega), if_pos h]
theorem dec_4 (h7 : 37 + zBw b ≤ b.length) (h : zFa (ownD b s) ≠ (b.drop (5 + zBw b)).take 32) : decR b s = zHs 201 := by
  unfold decR; rw [if_neg (by omega), if_neg (by rintro (q | q); exact q hk; omega), if_neg (by omega), if_pos h]
theorem dec_5 (h7 : 37 + zBw b ≤ b.length) (h : zFa (ownD b s) = (b.drop (5 + zBw b)).take 32) (h8 : (zEb (zDd b) ⟨zEp b, 0, 0⟩).2.done ≠ 0 ∨ ckB (zEb (zDd b) ⟨zEp b, 0, 0⟩).1 = false) : decR b s = zHs 200 := by
  unfold decR; rw [if_neg (by omega), if_neg (by rintro (q | q); exact q hk; omega), if_neg (by omega), if_neg (by simpa using h), if_pos h8]
theorem dec_6 (h7 : 37 + zBw b ≤ b.length) (h : zFa (ownD b s) = (b.drop (5 + zBw b)).take 32) (h8 : (zEb (zDd b) ⟨zEp b, 0, 0⟩).2.done = 0) (h9 : ckB (zEb (zDd b) ⟨zEp b, 0, 0⟩).1 = true) :
    decR b s = (0, (zEb (zDd b) ⟨zEp b, 0, 0⟩).1, 37 + zBw b, ownD b s) := by
  unfold decR; rw [if_neg (by omega), if_neg (by rintro (q | q); exact q hk; omega), if_neg (by omega), if_neg (by simpa using h), if_neg (by rintro (q | q); exact q h8; rw [h9] at q; cases q)]
end
theorem text_len (s : Rdr) (m : Int) : (s.text m).1.length ≤ 65536 := by
  have h2 : zCh (s.cut 2 0) < 65536 := Nat.lt_of_lt_of_le (zFu _) (Nat.pow_le_pow_right (n := 256) (j := 2) (by omega) (by simp only [Rdr.cut, List.length_take]; omega))
  unfold Rdr.text
  repeat' split
  all_goals first | simp | skip
  simp only [Rdr.cut, List.length_take] at *
  omega
theorem bytes_len (s : Rdr) (k : Nat) : (s.bytes k).1.length ≤ k := by
  unfold Rdr.bytes
  repeat' split
  all_goals first | simp | skip
  simp only [Rdr.cut, List.length_take] at *
  omega
theorem prpS_len2 (s : Rdr) (i : Nat) : ∀ p ∈ (prpS s i).1, p.name.length ≤ 1048576 ∧ p.value.length ≤ 1048576 := by
  induction i with
  | zero => intro p hp; simp [prpS] at hp
  | succ i ih =>
    intro p hp
    rw [prpS] at hp
    rcases List.mem_append.1 hp with hp | hp
    · exact ih p hp
    · obtain rfl := List.mem_singleton.1 hp
      have h1 := text_len (prpS s i).2 24
      have h2 := text_len ((prpS s i).2.text 24).2 64
      exact ⟨by simp only; omega, by simp only; omega⟩
theorem keepT_len (s : Rdr) (size : Nat) (less : Int) : (zEo s size less).1.length ≤ 241 := by
  rw [zEo, zJm]; omega
theorem num1_le (s : Rdr) : (s.num 1).1 ≤ 1048576 := Nat.le_trans (Nat.le_of_lt (zEh s 1)) (by decide)
theorem num2_le (s : Rdr) : (s.num 2).1 ≤ 1048576 := Nat.le_trans (Nat.le_of_lt (zEh s 2)) (by decide)
theorem text_le (s : Rdr) (m : Int) : (s.text m).1.length ≤ 1048576 := Nat.le_trans (text_len s m) (by decide)
theorem keepT_le (s : Rdr) (size : Nat) (less : Int) : (zEo s size less).1.length ≤ 1048576 := Nat.le_trans (keepT_len s size less) (by decide)
theorem bytes_le (s t : Rdr) : (t.bytes (s.num 2).1).1.length ≤ 1048576 := Nat.le_trans (bytes_len t _) (num2_le s)
theorem prpS_le (s t : Rdr) : (prpS t (s.num 1).1).1.length ≤ 1048576 := by rw [prpS_len]; exact num1_le s
theorem zCq {α : Type} : ([] : List α).length ≤ 1048576 := Nat.zero_le _
theorem zGi : ∀ p ∈ ([] : List Prp), p.name.length ≤ 1048576 ∧ p.value.length ≤ 1048576 := fun _ h => nomatch h
theorem take1_sml (k : Int) (s : Rdr) : Sml (take1 k s).1 := ⟨text_le s 24, zCq, zCq, zGi, zCq, zCq⟩
theorem take2_sml (k : Int) (s : Rdr) : Sml (zJv k s).1 := by
  unfold zJv
  extract_lets n a b c d t m p
  have hp : p.1.length ≤ 1048576 := prpS_le t.2 m.2
  have hq : ∀ q ∈ p.1, q.name.length ≤ 1048576 ∧ q.value.length ≤ 1048576 := prpS_len2 m.2 m.1
  have h1 : n.1.length ≤ 1048576 := text_le s 240
  have h2 : t.1.length ≤ 1048576 := text_le d.2 24
  clear_value n a b c d t p
  exact ⟨h1, h2, hp, hq, zCq, zCq⟩
theorem take3_sml (k : Int) (s : Rdr) : Sml (take3 k s).1 := ⟨zCq, zCq, zCq, zGi, keepT_le s 4 0, zCq⟩
theorem take4_sml (k : Int) (s : Rdr) : Sml (take4 k s).1 := ⟨zCq, zCq, zCq, zGi, keepT_le _ 2 1, zCq⟩
theorem take5_sml (k : Int) (s : Rdr) : Sml (zJn k s).1 := ⟨zCq, zCq, zCq, zGi, zCq, bytes_le _ _⟩
theorem take6_sml (k : Int) (s : Rdr) : Sml (take6 k s).1 := ⟨zCq, zCq, zCq, zGi, zCq, zCq⟩
theorem takeK_sml {k : Int} (h : inK k) (s : Rdr) : Sml (zEb k s).1 := by
  rcases zEd h with rfl | rfl | rfl | rfl | rfl | rfl | rfl
  · exact take1_sml 1 s
  · exact take2_sml 2 s
  · exact take3_sml 3 s
  · exact take4_sml 4 s
  · exact take5_sml 5 s
  · exact take6_sml 6 s
  · exact take6_sml 7 s
end Go.Proofs.YtbogecljkaimdaaGreatDoor
namespace Go.Proofs.YtbogecljkaimdaaGreatDoor
open Go.Sl
set_option maxRecDepth 10000
def decP (x : Int × Rec × Nat × Fs) (As : List zAs) (w0 : World) (u : Value) (w' : World) : Prop :=
  ∃ X pv kv dv, u = .tuple #[.agg (x.2.1.cells pv kv dv).toArray, .int .i64 x.2.2.1, x.2.2.2.agg, .int .i64 x.1] ∧ RecOw X x.2.1 pv kv dv ∧ Trs w0 w' As (X :: As)
theorem recO_none : RecOw [] (zDf 0) nilv nilv nilv := ⟨[], [], [], rfl, Buf.nil _ _, Buf.nil _ _, Buf.nil _ _⟩
theorem zHb {b : List UInt8} {s : Fs} {e : Int} (h : decR b s = zHs e) {As : List zAs} {w0 w' : World} (T : Trs w0 w' As ([] :: As)) : decP (decR b s) As w0 (.tuple #[.agg #[.int .i64 0, str [], .int .i64 0, .int .i64 0, .int .i64 0, .int .i64 0, str [], nilv, .int .i64 0, .int .i64 0, .int .i64 0, nilv, nilv], .int .i64 0, .agg #[.int .u64 0, .int .u64 0, .int .u64 0, .int .u64 0], .int .i64 e]) w' := by
  rw [h]
  exact ⟨[], nilv, nilv, nilv, rfl, recO_none, T⟩
set_option maxHeartbeats 1000000 in
theorem zHw (D : zAs) (ad : Option Addr) (c : Nat) (b : List UInt8) (hD : Rd D 1 (.slice ad b.length c) b.length (byt b)) (hcap : b.length ≤ c) (hbl : b.length ≤ 4000000) (s : Fs) (R' : List zAs) (hG : Tab (D :: R') 2 shaK) (w0 : World) (H : Hp w0 (D :: R')) :
    Ret Tryz.prog 19 #[.slice ad b.length c, s.agg] w0 (decP (decR b s) (D :: R') w0) := by
  have S := St.begin H
  refine zCg 116 Tryz.func19 rfl rfl (by decide) ?_; intro a E
  refine wp_seq_k ?_; intro K hK
  refine zAa ?_
  refine zAm rfl (zCk E S rfl rfl (by decide) rfl rfl ?_); clear E S a; intro a w b3 E S
  refine zAm rfl (zBr E S rfl rfl (by decide) rfl rfl rfl ?_); clear E S a; intro a w b4 E S
  refine zp E (zAe E rfl rfl) ?_; clear E a; intro a E
  refine zAm rfl (zBr E S rfl rfl (by decide) rfl rfl rfl ?_); clear E S a; intro a w b6 E S
  refine zp E (zAe E rfl rfl) ?_; clear E a; intro a E
  refine wpList_nil ?_
  refine zAf hK ?_; clear hK; clear K
  refine wp_seq_k ?_; intro K hK
  refine zAa ?_
  refine zp E (zAe E rfl rfl) ?_; clear E a; intro a E
  refine wpList_nil ?_
  refine zAf hK ?_; clear hK; clear K
  iterate 2 (refine wp_seq_k ?_; intro K hK)
  refine zAa ?_
  refine zp E (zAd E rfl rfl) ?_; clear E a; intro a E
  refine zp E (by first | exact zBv E rfl rfl rfl | exact zAx E rfl rfl rfl | exact zAp E rfl rfl rfl) ?_; clear E a; intro a E
  refine zp E (zCw E rfl rfl rfl) ?_; clear E a; intro a E
  refine wpList_nil ?_
  refine zAf hK ?_; clear hK; clear K
  refine zBj E rfl (fun hb => ?_) (fun hb => ?_)
  · replace hb := Nrm.nrm hb
    refine wp_seq_k ?_; intro K hK
    refine zAa ?_
    refine zp E (zAd E rfl rfl) ?_; clear E a; intro a E
    refine zCp E rfl rfl (by decide) rfl rfl Tryz.func42 rfl (by kernel_rfl) rfl (zFw 10 _ _ S.hp) ?_
    rintro v22 w ⟨rfl, hT⟩; clear E a; intro a E
    have S := S.all hT
    iterate 4 (refine zp E (zBh E rfl rfl rfl) ?_; clear E a; intro a E)
    refine zAm rfl (zBd E S rfl rfl rfl rfl (by simp [Value.oneCell']) rfl (by repeat (first | exact pk1 | apply zAc)) (by simp) ?_); clear E S a; intro a w E S; simp only [List.take_succ_cons, List.take_zero, List.drop_succ_cons, List.drop_zero, List.cons_append, List.nil_append, List.append_nil, List.length_cons, List.length_nil, Nat.zero_add, Nat.add_zero] at S
    refine zp E (zAe E rfl rfl) ?_; clear E a; intro a E
    refine zAm rfl (zBd E S rfl rfl rfl rfl (by simp [Value.oneCell']) rfl (by repeat (first | exact pk1 | apply zAc)) (by simp) ?_); clear E S a; intro a w E S; simp only [List.take_succ_cons, List.take_zero, List.drop_succ_cons, List.drop_zero, List.cons_append, List.nil_append, List.append_nil, List.length_cons, List.length_nil, Nat.zero_add, Nat.add_zero] at S
    refine zp E (zAe E rfl rfl) ?_; clear E a; intro a E
    refine wpList_nil ?_
    refine zAf hK ?_; clear hK; clear K
    refine wp_ret ?_
    refine zAv ?_; clear hK; clear K
    refine zEy E rfl rfl rfl rfl rfl (S.get (by repeat (first | exact pk1 | apply zAc))) rfl (S.get (by repeat (first | exact pk1 | apply zAc))) rfl ?_
    exact ⟨_, rfl, zHb (dec_1 (by omega)) ((St.drops0 [_, _, _] S).addNil).tr⟩
  · replace hb := Nrm.nrm hb
    refine wp_skip ?_
    refine zAf hK ?_; clear hK; clear K
    refine wp_seq_k ?_; intro K hK
    have h5 : 5 ≤ b.length := by omega
    refine zAa ?_
    refine zp E (zAd E rfl rfl) ?_; clear E a; intro a E
    refine zp E (zFq (hi := 5) (s := 1) E rfl rfl rfl rfl rfl rfl (by omega)) ?_; clear E a; intro a E
    have hR5 := hD.bytes (lo := 0) (hi := 5) (mx := c) (by omega) (by omega) (by omega)
    rw [List.drop_zero, Nat.sub_zero] at hR5
    have hl5 : (b.take 5).length = 5 := by rw [List.length_take]; omega
    refine zAn E rfl rfl (by decide) rfl Tryz.func43 rfl (by kernel_rfl) rfl (zKf D _ (b.take 5) _ hR5 (S.hp.sel (zAi (by repeat (first | exact pk1 | apply zAc)) (zAo _))) (by omega)) ?_
    rintro v29 w ⟨p, A, rfl, hA, hT⟩; clear E a; intro a E
    have S := S.call2 (zAi (by repeat (first | exact pk1 | apply zAc)) (zAo _)) hT
    refine zp E (zAe E rfl rfl) ?_; clear E a; intro a E
    refine wpList_nil ?_
    refine zAf hK ?_; clear hK; clear K
    refine wp_seq_k ?_; intro K hK
    refine zAa ?_
    refine zp E (zAd E rfl rfl) ?_; clear E a; intro a E
    refine zAn E rfl rfl (by decide) rfl Tryz.func44 rfl (by kernel_rfl) rfl (rnum_fit p (b.take 5) 0 A _ hA (S.hp.sel (zAi (by repeat (first | exact pk1 | apply zAc)) (zAo _))) 1 (by omega) (by omega) (by omega)) ?_
    rintro v31 w ⟨A1, rfl, hA1, hT⟩; clear E a; intro a E
    have S := S.call1 (zAi (by repeat (first | exact pk1 | apply zAc)) (zAo _)) hT
    have hk1 : ((b.take 5).drop 0).take 1 = b.take 1 := by rw [List.drop_zero, List.take_take]; rfl
    have hkk : zCh (((b.take 5).drop 0).take 1) = zDd b := by rw [hk1]; rfl
    rw [hkk] at E
    obtain ⟨k, hk⟩ : ∃ k, k = zDd b := ⟨_, rfl⟩
    rw [← hk] at E
    have hklt : k < 256 := by rw [hk]; exact kindOf_lt b
    refine zp E (by first | exact zBi E rfl rfl rfl rfl (by first | exact wu8 _ | exact zFj (by omega) | exact zDt (by omega) | exact w_in (by omega) | exact zCb (by omega) | exact rfl) | exact zBz E rfl rfl rfl rfl rfl (by assumption) (S.stab.at (by simp))) ?_; clear E a; intro a E
    refine zp E (zAd E rfl rfl) ?_; clear E a; intro a E
    refine zAn E rfl rfl (by decide) rfl Tryz.func44 rfl (by kernel_rfl) rfl (rnum_fit p (b.take 5) 1 A1 _ hA1 (S.hp.sel (zAi (by repeat (first | exact pk1 | apply zAc)) (zAo _))) 4 (by omega) (by omega) (by omega)) ?_
    rintro v34 w ⟨A2, rfl, hA2, hT⟩; clear E a; intro a E
    have S := S.call1 (zAi (by repeat (first | exact pk1 | apply zAc)) (zAo _)) hT
    have hss : zCh (((b.take 5).drop 1).take 4) = zBw b := by rw [List.drop_take, List.take_take]; rfl
    rw [hss] at E
    obtain ⟨n, hn⟩ : ∃ n, n = zBw b := ⟨_, rfl⟩
    rw [← hn] at E
    have hnlt : n < 4294967296 := by rw [hn]; exact sizeOf_lt b
    refine zp E (by first | exact zBi E rfl rfl rfl rfl (by first | exact wu8 _ | exact zFj (by omega) | exact zDt (by omega) | exact w_in (by omega) | exact zCb (by omega) | exact rfl) | exact zBz E rfl rfl rfl rfl rfl (by assumption) (S.stab.at (by simp))) ?_; clear E a; intro a E
    iterate 2 (refine zp E (zAe E rfl rfl) ?_; clear E a; intro a E)
    refine wpList_nil ?_
    refine zAf hK ?_; clear hK; clear K
    refine wp_seq_k ?_; intro K hK
    refine zAa ?_
    refine zAn E rfl rfl (by decide) rfl Tryz.func25 rfl (by kernel_rfl) rfl (zIm _ _ S.hp) ?_
    rintro v37 w ⟨g, rfl, hT⟩; clear E a; intro a E
    have S := S.all hT
    refine zp E (zAd E rfl rfl) ?_; clear E a; intro a E
    rcases Classical.em (inK (k : Int)) with hin | hin
    · skip
      obtain ⟨ix, hrow⟩ := row_is hin
      refine zp E (zFn (v := .agg [fnv (mayF k), fnv (layF k), fnv (takF k)].toArray) E rfl rfl rfl rfl rfl (S.get (by repeat (first | exact pk1 | apply zAc))) hrow) ?_; clear E a; intro a E
      refine zp E (zAd E rfl rfl) ?_; clear E a; intro a E
      iterate 2 (refine zp E (zBh E rfl rfl rfl) ?_; clear E a; intro a E)
      refine zAm rfl (zBr E S rfl rfl (by decide) rfl rfl rfl ?_); clear E S a; intro a w b12 E S
      refine zAm rfl (zBd E S rfl rfl rfl rfl (by simp [Value.oneCell']) rfl (by repeat (first | exact pk1 | apply zAc)) (by simp) ?_); clear E S a; intro a w E S; simp only [List.take_succ_cons, List.take_zero, List.drop_succ_cons, List.drop_zero, List.cons_append, List.nil_append, List.append_nil, List.length_cons, List.length_nil, Nat.zero_add, Nat.add_zero] at S
      refine zp E (zAe E rfl rfl) ?_; clear E a; intro a E
      refine wpList_nil ?_
      refine zAf hK ?_; clear hK; clear K
      iterate 2 (refine wp_seq_k ?_; intro K hK)
      replace E := E.keep (e' := [(0, _), (3, _), (4, _), (5, _), (6, _), (7, _), (8, _), (10, _), (11, _), (12, _), (13, _)]) (zAb rfl (zAb rfl (zAb rfl (zAb rfl (zAb rfl (zAb rfl (zAb rfl (zAb rfl (zAb rfl (zAb rfl (zAb rfl (zAr))))))))))))
      refine zAa ?_
      refine zp E (zAd E rfl rfl) ?_; clear E a; intro a E
      refine zp E (zDl E rfl rfl) ?_; clear E a; intro a E
      refine zp E (zAd E rfl rfl) ?_; clear E a; intro a E
      refine zEf E (t := 44) rfl ((by rfl)) (fun hb44 => ?_)
      refine zy E hb44 (zAd E rfl rfl) ?_; clear E a; intro a E
      refine zy E hb44 (zEi E rfl rfl rfl) ?_; clear E a; intro a E
      refine zp E (zAj E rfl rfl hb44 rfl) ?_; clear E a; intro a E
      refine wpList_nil ?_
      refine zAf hK ?_; clear hK; clear K
      refine zBj E rfl (fun hb => ?_) (fun hb => ?_)
      · replace hb := Nrm.nrm hb
        refine wp_seq_k ?_; intro K hK
        refine zAa ?_
        refine zp E (zAd E rfl rfl) ?_; clear E a; intro a E
        refine zCp E rfl rfl (by decide) rfl rfl Tryz.func42 rfl (by kernel_rfl) rfl (zFw 200 _ _ S.hp) ?_
        rintro v49 w ⟨rfl, hT⟩; clear E a; intro a E
        have S := S.all hT
        iterate 4 (refine zp E (zBh E rfl rfl rfl) ?_; clear E a; intro a E)
        refine zAm rfl (zBd E S rfl rfl rfl rfl (by simp [Value.oneCell']) rfl (by repeat (first | exact pk1 | apply zAc)) (by simp) ?_); clear E S a; intro a w E S; simp only [List.take_succ_cons, List.take_zero, List.drop_succ_cons, List.drop_zero, List.cons_append, List.nil_append, List.append_nil, List.length_cons, List.length_nil, Nat.zero_add, Nat.add_zero] at S
        refine zp E (zAe E rfl rfl) ?_; clear E a; intro a E
        refine zAm rfl (zBd E S rfl rfl rfl rfl (by simp [Value.oneCell']) rfl (by repeat (first | exact pk1 | apply zAc)) (by simp) ?_); clear E S a; intro a w E S; simp only [List.take_succ_cons, List.take_zero, List.drop_succ_cons, List.drop_zero, List.cons_append, List.nil_append, List.append_nil, List.length_cons, List.length_nil, Nat.zero_add, Nat.add_zero] at S
        refine zp E (zAe E rfl rfl) ?_; clear E a; intro a E
        refine wpList_nil ?_
        refine zAf hK ?_; clear hK; clear K
        refine wp_ret ?_
        refine zAv ?_; clear hK; clear K
        refine zEy E rfl rfl rfl rfl rfl (S.get (by repeat (first | exact pk1 | apply zAc))) rfl (S.get (by repeat (first | exact pk1 | apply zAc))) rfl ?_
        exact ⟨_, rfl, zHb (dec_2 h5 (by rw [← hk, ← hn]; first | exact .inl hin | exact .inr (by omega))) ((St.drops [_, _, _, _, _, _] (S.front1 (A := D) (by repeat (first | exact pk1 | apply zAc)))).addNil.tr)⟩
      · replace hb := Nrm.nrm hb
        refine wp_skip ?_
        refine zAf hK ?_; clear hK; clear K
        refine wp_seq_k ?_; intro K hK
        have hn2 : n ≤ 2048 := by omega
        have S := St.drops [_, _] S
        refine zAa ?_
        refine zp E (zAd E rfl rfl) ?_; clear E a; intro a E
        refine zp E (zCc E rfl rfl rfl (by first | exact wa_lit2 (x := 5) (by omega) | exact w_in (by omega) | exact zCb (by omega) | exact rfl)) ?_; clear E a; intro a E
        refine zp E (zAe E rfl rfl) ?_; clear E a; intro a E
        refine wpList_nil ?_
        refine zAf hK ?_; clear hK; clear K
        iterate 2 (refine wp_seq_k ?_; intro K hK)
        refine zAa ?_
        refine zp E (zAd E rfl rfl) ?_; clear E a; intro a E
        refine zp E (by first | exact zBv E rfl rfl rfl | exact zAx E rfl rfl rfl | exact zAp E rfl rfl rfl) ?_; clear E a; intro a E
        refine zp E (zAd E rfl rfl) ?_; clear E a; intro a E
        refine zp E (zCc E rfl rfl rfl (by first | exact zCt (y := 32) (by omega) | exact w_in (by omega) | exact zCb (by omega) | exact rfl)) ?_; clear E a; intro a E
        refine zp E (zCw E rfl rfl rfl) ?_; clear E a; intro a E
        have hs2 : zBw b ≤ 2048 := by omega
        have hkb : inK (zDd b) := by rw [← hk]; exact hin
        refine wpList_nil ?_
        refine zAf hK ?_; clear hK; clear K
        refine zBj E rfl (fun hb => ?_) (fun hb => ?_)
        · replace hb := Nrm.nrm hb
          refine wp_seq_k ?_; intro K hK
          replace E := E.keep (e' := [(0, _), (3, _), (4, _), (5, _), (6, _), (7, _), (8, _), (10, _), (12, _), (14, _)]) (zAb rfl (zAb rfl (zAb rfl (zAb rfl (zAb rfl (zAb rfl (zAb rfl (zAb rfl (zAb rfl (zAb rfl (zAr)))))))))))
          refine zAa ?_
          refine zp E (zAd E rfl rfl) ?_; clear E a; intro a E
          refine zCp E rfl rfl (by decide) rfl rfl Tryz.func42 rfl (by kernel_rfl) rfl (zFw 10 _ _ S.hp) ?_
          rintro v62 w ⟨rfl, hT⟩; clear E a; intro a E
          have S := S.all hT
          iterate 4 (refine zp E (zBh E rfl rfl rfl) ?_; clear E a; intro a E)
          refine zAm rfl (zBd E S rfl rfl rfl rfl (by simp [Value.oneCell']) rfl (by repeat (first | exact pk1 | apply zAc)) (by simp) ?_); clear E S a; intro a w E S; simp only [List.take_succ_cons, List.take_zero, List.drop_succ_cons, List.drop_zero, List.cons_append, List.nil_append, List.append_nil, List.length_cons, List.length_nil, Nat.zero_add, Nat.add_zero] at S
          refine zp E (zAe E rfl rfl) ?_; clear E a; intro a E
          refine zAm rfl (zBd E S rfl rfl rfl rfl (by simp [Value.oneCell']) rfl (by repeat (first | exact pk1 | apply zAc)) (by simp) ?_); clear E S a; intro a w E S; simp only [List.take_succ_cons, List.take_zero, List.drop_succ_cons, List.drop_zero, List.cons_append, List.nil_append, List.append_nil, List.length_cons, List.length_nil, Nat.zero_add, Nat.add_zero] at S
          refine zp E (zAe E rfl rfl) ?_; clear E a; intro a E
          refine wpList_nil ?_
          refine zAf hK ?_; clear hK; clear K
          refine wp_ret ?_
          refine zAv ?_; clear hK; clear K
          refine zEy E rfl rfl rfl rfl rfl (S.get (by repeat (first | exact pk1 | apply zAc))) rfl (S.get (by repeat (first | exact pk1 | apply zAc))) rfl ?_
          exact ⟨_, rfl, zHb (dec_3 h5 hkb hs2 (by omega)) ((St.drops [_, _, _, _] (S.front1 (A := D) (by repeat (first | exact pk1 | apply zAc)))).addNil.tr)⟩
        · replace hb := Nrm.nrm hb
          refine wp_skip ?_
          refine zAf hK ?_; clear hK; clear K
          refine wp_seq_k ?_; intro K hK
          replace E := E.keep (e' := [(0, _), (3, _), (4, _), (5, _), (6, _), (7, _), (8, _), (10, _), (12, _), (14, _)]) (zAb rfl (zAb rfl (zAb rfl (zAb rfl (zAb rfl (zAb rfl (zAb rfl (zAb rfl (zAb rfl (zAb rfl (zAr)))))))))))
          have h7 : 37 + n ≤ b.length := by omega
          have hto : (b.take (5 + n)).length = 5 + n := by rw [List.length_take]; omega
          obtain ⟨own, hown⟩ : ∃ own, own = shaF (zFa s ++ b.take (5 + n)) := ⟨_, rfl⟩
          have hownD : ownD b s = own := by rw [hown, ownD, ← hn]
          refine zJa (fun (a : Act) (w' : World) => ∃ b15, St w0 (D :: R') w' ([(b15, cel [.int .u64 own.a, .int .u64 own.b, .int .u64 own.c, .int .u64 own.d] 29)] :: [(b12, cel [fnv (mayF k), fnv (layF k), fnv (takF k)] 59)] :: D :: [(b6, cel [.int .u64 0, .int .u64 0, .int .u64 0, .int .u64 0] 29)] :: [(b4, cel [.int .i64 0, str [], .int .i64 0, .int .i64 0, .int .i64 0, .int .i64 0, str [], nilv, .int .i64 0, .int .i64 0, .int .i64 0, nilv, nilv] 26)] :: [(b3, cel [.int .u64 s.a, .int .u64 s.b, .int .u64 s.c, .int .u64 s.d] 29)] :: R') ∧ Fr a 116 [(0, .slice ad b.length c), (4, ptr b4), (6, ptr b6), (8, fnv 42), (10, .int .i64 k), (12, ptr b12), (14, .int .i64 ((5 + n : Nat) : Int)), (15, ptr b15)]) ?_ ?_
          · skip
            refine zDm S (.cons (0, 0) (.cons (1, 0) (.cons (2, 0) (.cons (3, 0) (.cons (4, 0) (.fork 5 (.ofL [(6, 1), (7, 3)]) 6 (.ofL [(5, 1), (7, 3)]))))))) [[(b3, cel [.int .u64 s.a, .int .u64 s.b, .int .u64 s.c, .int .u64 s.d] 29)]] (fun h => h.sub (by first | (simp; done) | (simp +contextual; done) | (simp [*]; done))) (by kernel_rfl) (by kernel_rfl) ?_
            clear S; intro w S
            iterate 3 (refine zm E rfl (fun w h => zAd E rfl rfl) ?_; clear E a; intro a E)
            refine zm E rfl (fun w h => rn_slice_hm (hi := 5 + n) (mx := 5 + n) (s := 1) E rfl rfl rfl rfl rfl rfl rfl rfl (by omega) (by omega)) ?_; clear E a; intro a E
            have hRo := hD.bytes (lo := 0) (hi := 5 + n) (mx := 5 + n) (by omega) (by omega) (by omega)
            rw [List.drop_zero, Nat.sub_zero] at hRo
            refine zm E rfl (fun w h => zBq (vs := [_, _, _, _]) E rfl rfl rfl (h.one (by repeat (first | exact mm1 | assumption | apply List.Mem.tail))) rfl rfl) ?_; clear E a; intro a E
            refine ⟨?_, ?_⟩
            · skip
              refine zCn E rfl rfl rfl (by decide) rfl Tryz.func31 rfl (by kernel_rfl) rfl (over_ret s D _ (b.take (5 + n)) hRo (by omega) _ (by repeat (first | exact mm1 | assumption | apply List.Mem.tail)) (by refine hG.sub fun Q hQ => ?_; rcases List.mem_cons.1 hQ with rfl | hQ; simp; simp [hQ]) _ S.hp) ?_
              rintro v72 w ⟨he, hT⟩; clear E a; intro a E
              have S := S.all hT; rw [← hown] at he; subst he
              refine ⟨S.stab.sub (by first | (simp; done) | (simp +contextual; done) | (simp [*]; done)), ?_⟩
              refine zDg rfl rfl (zBr E S rfl rfl (by decide) rfl rfl rfl ?_); clear E S a; intro a w b15 E S; refine ⟨S.stab.sub (by first | (simp; done) | (simp +contextual; done) | (simp [*]; done)), ?_⟩
              refine zCy rfl rfl (zBd E S rfl rfl rfl rfl (by simp [Value.oneCell']) rfl (by repeat (first | exact pk1 | apply zAc)) (by simp) ?_); clear E S a; intro a w E S; simp only [List.take_succ_cons, List.take_zero, List.drop_succ_cons, List.drop_zero, List.cons_append, List.nil_append, List.append_nil, List.length_cons, List.length_nil, Nat.zero_add, Nat.add_zero] at S
              refine zCd ?_
              refine zCf ?_
              exact ⟨_, S, E.keep (zAb rfl (zAb rfl (zAb rfl (zAb rfl (zAb rfl (zAb rfl (zAb rfl (zAb rfl zAr))))))))⟩
            · skip
              refine zDg rfl rfl (zBr E S rfl rfl (by decide) rfl rfl rfl ?_); clear E S a; intro a w b15 E S; refine ⟨S.stab.sub (by first | (simp; done) | (simp +contextual; done) | (simp [*]; done)), ?_⟩
              refine zCn E rfl rfl rfl (by decide) rfl Tryz.func31 rfl (by kernel_rfl) rfl (over_ret s D _ (b.take (5 + n)) hRo (by omega) _ (by repeat (first | exact mm1 | assumption | apply List.Mem.tail)) (by refine hG.sub fun Q hQ => ?_; rcases List.mem_cons.1 hQ with rfl | hQ; simp; simp [hQ]) _ S.hp) ?_
              rintro v72 w ⟨he, hT⟩; clear E a; intro a E
              have S := S.all hT; rw [← hown] at he; subst he
              refine ⟨S.stab.sub (by first | (simp; done) | (simp +contextual; done) | (simp [*]; done)), ?_⟩
              refine zCy rfl rfl (zBd E S rfl rfl rfl rfl (by simp [Value.oneCell']) rfl (by repeat (first | exact pk1 | apply zAc)) (by simp) ?_); clear E S a; intro a w E S; simp only [List.take_succ_cons, List.take_zero, List.drop_succ_cons, List.drop_zero, List.cons_append, List.nil_append, List.append_nil, List.length_cons, List.length_nil, Nat.zero_add, Nat.add_zero] at S
              refine zCd ?_
              refine zCf ?_
              exact ⟨_, S, E.keep (zAb rfl (zAb rfl (zAb rfl (zAb rfl (zAb rfl (zAb rfl (zAb rfl (zAb rfl zAr))))))))⟩
          · clear E S a; intro a w J; obtain ⟨b15, S, E⟩ := J
            refine zAf hK ?_; clear hK; clear K
            iterate 2 (refine wp_seq_k ?_; intro K hK)
            obtain ⟨fn, q1, q2, q3⟩ := takF_fn hin
            have hRs := hD.bytes (lo := 5 + n) (hi := 37 + n) (mx := c) (by omega) (by omega) (by omega)
            rw [show 37 + n - (5 + n) = 32 by omega] at hRs
            refine zDm S (.ofL [(0, 0), (2, 0), (3, 0), (4, 0), (5, 0), (6, 0), (1, 1), (7, 3), (8, 2)]) [[(b15, cel [.int .u64 own.a, .int .u64 own.b, .int .u64 own.c, .int .u64 own.d] 29)]] (fun h => h.sub (by first | (simp; done) | (simp +contextual; done) | (simp [*]; done))) (by kernel_rfl) (by kernel_rfl) ?_
            clear S; intro w S
            refine zm E rfl (fun w h => zBq (vs := [_, _, _, _]) E rfl rfl rfl (h.one (by repeat (first | exact mm1 | assumption | apply List.Mem.tail))) rfl rfl) ?_; clear E a; intro a E
            iterate 3 (refine zm E rfl (fun w h => zAd E rfl rfl) ?_; clear E a; intro a E)
            refine zm E rfl (fun w h => zCc E rfl rfl rfl (by first | exact zCt (y := 32) (by omega) | exact w_in (by omega) | exact zCb (by omega) | exact rfl)) ?_; clear E a; intro a E
            refine zm E rfl (fun w h => zGz (lo := 5 + n) (hi := 37 + n) (s := 1) E rfl rfl rfl rfl rfl rfl rfl (by omega) (by omega) (by omega)) ?_; clear E a; intro a E
            refine zCn E rfl rfl rfl (by decide) rfl Tryz.func32 rfl (by kernel_rfl) rfl (zHv own _ _ S.hp) ?_
            rintro v74 w ⟨D2, hD2, hT⟩; clear E a; intro a E
            have S := S.all hT
            refine ⟨S.stab.sub (by first | (simp; done) | (simp +contextual; done) | (simp [*]; done)), ?_⟩
            refine zGc E rfl rfl rfl (by decide) rfl Tryz.func45 rfl (by kernel_rfl) rfl (equal_ret D2 D _ _ (zFa own) ((b.drop (5 + n)).take 32) (by rw [zEj]; exact hD2.rd) hRs (by rw [zEj]; omega) _ (by repeat (first | exact mm1 | assumption | apply List.Mem.tail)) (by repeat (first | exact mm1 | assumption | apply List.Mem.tail)) _ S.hp) ?_
            rintro v80 w ⟨rfl, hT⟩; clear E a; intro a E
            have S := S.all hT
            refine zCs E rfl rfl rfl (by decide) (fun w => zDl E rfl rfl) ?_; clear E a; intro a E
            refine zCd ?_
            refine zAf hK ?_; clear hK; clear K
            refine zBj E rfl (fun hb => ?_) (fun hb => ?_)
            · replace hb := Nrm.nrm hb
              refine wp_seq_k ?_; intro K hK
              refine zAa ?_
              refine zp E (zAd E rfl rfl) ?_; clear E a; intro a E
              refine zCp E rfl rfl (by decide) rfl rfl Tryz.func42 rfl (by kernel_rfl) rfl (zFw 201 _ _ S.hp) ?_
              rintro v83 w ⟨rfl, hT⟩; clear E a; intro a E
              have S := S.all hT
              iterate 4 (refine zp E (zBh E rfl rfl rfl) ?_; clear E a; intro a E)
              refine zAm rfl (zBd E S rfl rfl rfl rfl (by simp [Value.oneCell']) rfl (by repeat (first | exact pk1 | apply zAc)) (by simp) ?_); clear E S a; intro a w E S; simp only [List.take_succ_cons, List.take_zero, List.drop_succ_cons, List.drop_zero, List.cons_append, List.nil_append, List.append_nil, List.length_cons, List.length_nil, Nat.zero_add, Nat.add_zero] at S
              refine zp E (zAe E rfl rfl) ?_; clear E a; intro a E
              refine zAm rfl (zBd E S rfl rfl rfl rfl (by simp [Value.oneCell']) rfl (by repeat (first | exact pk1 | apply zAc)) (by simp) ?_); clear E S a; intro a w E S; simp only [List.take_succ_cons, List.take_zero, List.drop_succ_cons, List.drop_zero, List.cons_append, List.nil_append, List.append_nil, List.length_cons, List.length_nil, Nat.zero_add, Nat.add_zero] at S
              refine zp E (zAe E rfl rfl) ?_; clear E a; intro a E
              refine wpList_nil ?_
              refine zAf hK ?_; clear hK; clear K
              refine wp_ret ?_
              refine zAv ?_; clear hK; clear K
              refine zEy E rfl rfl rfl rfl rfl (S.get (by repeat (first | exact pk1 | apply zAc))) rfl (S.get (by repeat (first | exact pk1 | apply zAc))) rfl ?_
              exact ⟨_, rfl, zHb (dec_4 h5 hkb hs2 (by omega) (by rw [hownD, ← hn]; simpa using hb)) ((St.drops [_, _, _, _, _, _] (S.front1 (A := D) (by repeat (first | exact pk1 | apply zAc)))).addNil.tr)⟩
            · replace hb := Nrm.nrm hb
              refine wp_skip ?_
              refine zAf hK ?_; clear hK; clear K
              refine wp_seq_k ?_; intro K hK
              have hse : zFa (ownD b s) = (b.drop (5 + zBw b)).take 32 := by rw [hownD, ← hn]; simpa using hb
              obtain ⟨body, hbody⟩ : ∃ body, body = zEp b := ⟨_, rfl⟩
              have hRb := hD.bytes (lo := 5) (hi := 5 + n) (mx := c) (by omega) (by omega) (by omega)
              rw [show 5 + n - 5 = n by omega] at hRb
              have hbe : (b.drop 5).take n = body := by rw [hbody, zEp, ← hn]
              rw [hbe] at hRb
              have hbn : body.length ≤ 2048 := by rw [← hbe, List.length_take]; omega
              refine zAa ?_
              iterate 2 (refine zp E (zAd E rfl rfl) ?_; clear E a; intro a E)
              refine zp E (zGz (lo := 5) (hi := 5 + n) (s := 1) E rfl rfl rfl rfl rfl rfl rfl (by omega) (by omega) (by omega)) ?_; clear E a; intro a E
              refine zAn E rfl rfl (by decide) rfl Tryz.func43 rfl (by kernel_rfl) rfl (zKf D _ body _ hRb (S.hp.sel (zAi (by repeat (first | exact pk1 | apply zAc)) (zAo _))) (by omega)) ?_
              rintro v91 w ⟨p2, B, rfl, hB, hT⟩; clear E a; intro a E
              have S := S.call2 (zAi (by repeat (first | exact pk1 | apply zAc)) (zAo _)) hT
              refine zp E (zAe E rfl rfl) ?_; clear E a; intro a E
              refine wpList_nil ?_
              refine zAf hK ?_; clear hK; clear K
              refine wp_seq_k ?_; intro K hK
              refine zAa ?_
              refine zp E (zAd E rfl rfl) ?_; clear E a; intro a E
              refine zp E (zCv (cells := [_, _, _, _, _, _, _, _, _, _, _, _, _]) E rfl rfl rfl) ?_; clear E a; intro a E
              refine zAm rfl (zBr E S rfl rfl (by decide) rfl rfl rfl ?_); clear E S a; intro a w b17 E S
              refine zAm rfl (zBd E S rfl rfl rfl rfl (by simp [Value.oneCell']) rfl (by repeat (first | exact pk1 | apply zAc)) (by simp) ?_); clear E S a; intro a w E S; simp only [List.take_succ_cons, List.take_zero, List.drop_succ_cons, List.drop_zero, List.cons_append, List.nil_append, List.append_nil, List.length_cons, List.length_nil, Nat.zero_add, Nat.add_zero] at S
              refine wpList_nil ?_
              refine zAf hK ?_; clear hK; clear K
              refine wp_seq_k ?_; intro K hK
              replace E := E.keep (e' := [(4, _), (6, _), (8, _), (12, _), (14, _), (15, _), (16, _), (17, _)]) (zAb rfl (zAb rfl (zAb rfl (zAb rfl (zAb rfl (zAb rfl (zAb rfl (zAb rfl (zAr)))))))))
              refine zAa ?_
              refine zp E (by first | exact zAg (q := 2) E rfl rfl rfl | exact zAh (q := 2) E rfl rfl rfl) ?_; clear E a; intro a E
              refine zp E (by first | exact zAq E rfl rfl rfl (S.get (by repeat (first | exact pk1 | apply zAc))) rfl | exact zAl E rfl rfl rfl (by assumption)) ?_; clear E a; intro a E
              refine zp E (zAd E rfl rfl) ?_; clear E a; intro a E
              refine zCp E rfl rfl (by decide) rfl rfl q1 q2 q3 rfl (takK_ret p2 b17 k ⟨body, 0, 0⟩ B hB _ (S.hp.sel (zAi (by repeat (first | exact pk1 | apply zAc)) (zAi (by repeat (first | exact pk1 | apply zAc)) (zAo _)))) hin) ?_
              rintro v97 w ⟨B2, X, pv, kv, dv, hB2, hX, hT⟩; clear E a; intro a E
              have S := S.call3 (zAi (by repeat (first | exact pk1 | apply zAc)) (zAi (by repeat (first | exact pk1 | apply zAc)) (zAo _))) hT
              refine wpList_nil ?_
              refine zAf hK ?_; clear hK; clear K
              iterate 2 (refine wp_seq_k ?_; intro K hK)
              have hsml := takeK_sml hin ⟨body, 0, 0⟩
              obtain ⟨rec, rd, htk⟩ : ∃ rec rd, zEb k ⟨body, 0, 0⟩ = (rec, rd) := ⟨_, _, rfl⟩
              rw [htk] at hB2 hX S hsml
              dsimp only at hB2 hX S hsml
              obtain ⟨a1, c1, rfl⟩ := hX.rd.pr.slice
              obtain ⟨a2, c2, rfl⟩ := hX.rd.kr.slice
              obtain ⟨a3, c3, rfl⟩ := hX.rd.dr.slice
              refine zAa ?_
              refine zp E (zAd E rfl rfl) ?_; clear E a; intro a E
              refine zAn E rfl rfl (by decide) rfl Tryz.func46 rfl (by kernel_rfl) rfl (rdone_ret p2 rd B2 _ hB2 (S.hp.sel (zAi (by repeat (first | exact pk1 | apply zAc)) (zAo _)))) ?_
              rintro v99 w ⟨rfl, hT⟩; clear E a; intro a E
              have S := S.call1 (zAi (by repeat (first | exact pk1 | apply zAc)) (zAo _)) hT
              refine zp E (by first | exact zDa E rfl rfl rfl | exact zBc E rfl rfl rfl rfl | exact zBl E rfl rfl rfl rfl | exact zBg E rfl rfl rfl) ?_; clear E a; intro a E
              refine zp E (zAd E rfl rfl) ?_; clear E a; intro a E
              refine zAw E (t := 101) rfl (fun hb101 => ?_) (fun hb101 => ?_)
              · have hb101n := hb101; replace hb101n := Nrm.nrm hb101n
                iterate 3 (refine zn E hb101 ?_; clear E a; intro a E)
                refine zp E (zAk E rfl rfl hb101 rfl) ?_; clear E a; intro a E
                refine wpList_nil ?_
                refine zAf hK ?_; clear hK; clear K
                refine zBy E rfl rfl ?_
                refine wp_seq_k ?_; intro K hK
                refine zAa ?_
                refine zp E (zAd E rfl rfl) ?_; clear E a; intro a E
                refine zCp E rfl rfl (by decide) rfl rfl Tryz.func42 rfl (by kernel_rfl) rfl (zFw 200 _ _ S.hp) ?_
                rintro v107 w ⟨rfl, hT⟩; clear E a; intro a E
                have S := S.all hT
                iterate 4 (refine zp E (zBh E rfl rfl rfl) ?_; clear E a; intro a E)
                refine zAm rfl (zBd E S rfl rfl rfl rfl (by simp [Value.oneCell']) rfl (by repeat (first | exact pk1 | apply zAc)) (by simp) ?_); clear E S a; intro a w E S; simp only [List.take_succ_cons, List.take_zero, List.drop_succ_cons, List.drop_zero, List.cons_append, List.nil_append, List.append_nil, List.length_cons, List.length_nil, Nat.zero_add, Nat.add_zero] at S
                refine zp E (zAe E rfl rfl) ?_; clear E a; intro a E
                refine zAm rfl (zBd E S rfl rfl rfl rfl (by simp [Value.oneCell']) rfl (by repeat (first | exact pk1 | apply zAc)) (by simp) ?_); clear E S a; intro a w E S; simp only [List.take_succ_cons, List.take_zero, List.drop_succ_cons, List.drop_zero, List.cons_append, List.nil_append, List.append_nil, List.length_cons, List.length_nil, Nat.zero_add, Nat.add_zero] at S
                refine zp E (zAe E rfl rfl) ?_; clear E a; intro a E
                refine wpList_nil ?_
                refine zAf hK ?_; clear hK; clear K
                refine wp_ret ?_
                refine zAv ?_; clear hK; clear K
                refine zEy E rfl rfl rfl rfl rfl (S.get (by repeat (first | exact pk1 | apply zAc))) rfl (S.get (by repeat (first | exact pk1 | apply zAc))) rfl ?_
                refine ⟨_, rfl, zHb (dec_5 h5 hkb hs2 (by omega) hse ?_) ?_⟩
                · rw [← hk, ← hbody, htk]
                  first
                    | exact .inl (by simp only; omega)
                    | exact .inr (ckE_no hb)
                · exact (St.drops [_, _, _, _, _, _, _, _, _] (S.front1 (A := D) (by repeat (first | exact pk1 | apply zAc)))).addNil.tr
              · have hb101n := hb101; replace hb101n := Nrm.nrm hb101n
                refine zy E hb101 (zBq (vs := [_, _, _, _, _, _, _, _, _, _, _, _, _]) E rfl rfl rfl (S.get (by repeat (first | exact pk1 | apply zAc))) rfl rfl) ?_; clear E a; intro a E
                refine zBu E rfl rfl rfl rfl hb101 ?_; refine zCm E rfl (by decide) rfl Tryz.func11 rfl (by kernel_rfl) rfl (zHo hX.rd hsml (by repeat (first | exact mm1 | assumption | apply List.Mem.tail)) _ S.hp) ?_
                rintro v103 w ⟨rfl, hT⟩; clear E a; intro a E
                have S := S.all hT
                refine zy E hb101 (by first | exact zDa E rfl rfl rfl | exact zBc E rfl rfl rfl rfl | exact zBl E rfl rfl rfl rfl | exact zBg E rfl rfl rfl) ?_; clear E a; intro a E
                refine zp E (zAj E rfl rfl hb101 rfl) ?_; clear E a; intro a E
                refine wpList_nil ?_
                refine zAf hK ?_; clear hK; clear K
                refine zBj E rfl (fun hb => ?_) (fun hb => ?_)
                · replace hb := Nrm.nrm hb
                  refine wp_seq_k ?_; intro K hK
                  refine zAa ?_
                  refine zp E (zAd E rfl rfl) ?_; clear E a; intro a E
                  refine zCp E rfl rfl (by decide) rfl rfl Tryz.func42 rfl (by kernel_rfl) rfl (zFw 200 _ _ S.hp) ?_
                  rintro v107 w ⟨rfl, hT⟩; clear E a; intro a E
                  have S := S.all hT
                  iterate 4 (refine zp E (zBh E rfl rfl rfl) ?_; clear E a; intro a E)
                  refine zAm rfl (zBd E S rfl rfl rfl rfl (by simp [Value.oneCell']) rfl (by repeat (first | exact pk1 | apply zAc)) (by simp) ?_); clear E S a; intro a w E S; simp only [List.take_succ_cons, List.take_zero, List.drop_succ_cons, List.drop_zero, List.cons_append, List.nil_append, List.append_nil, List.length_cons, List.length_nil, Nat.zero_add, Nat.add_zero] at S
                  refine zp E (zAe E rfl rfl) ?_; clear E a; intro a E
                  refine zAm rfl (zBd E S rfl rfl rfl rfl (by simp [Value.oneCell']) rfl (by repeat (first | exact pk1 | apply zAc)) (by simp) ?_); clear E S a; intro a w E S; simp only [List.take_succ_cons, List.take_zero, List.drop_succ_cons, List.drop_zero, List.cons_append, List.nil_append, List.append_nil, List.length_cons, List.length_nil, Nat.zero_add, Nat.add_zero] at S
                  refine zp E (zAe E rfl rfl) ?_; clear E a; intro a E
                  refine wpList_nil ?_
                  refine zAf hK ?_; clear hK; clear K
                  refine wp_ret ?_
                  refine zAv ?_; clear hK; clear K
                  refine zEy E rfl rfl rfl rfl rfl (S.get (by repeat (first | exact pk1 | apply zAc))) rfl (S.get (by repeat (first | exact pk1 | apply zAc))) rfl ?_
                  refine ⟨_, rfl, zHb (dec_5 h5 hkb hs2 (by omega) hse ?_) ?_⟩
                  · rw [← hk, ← hbody, htk]
                    first
                      | exact .inl (by simp only; omega)
                      | exact .inr (ckE_no hb)
                  · exact (St.drops [_, _, _, _, _, _, _, _, _] (S.front1 (A := D) (by repeat (first | exact pk1 | apply zAc)))).addNil.tr
                · replace hb := Nrm.nrm hb
                  refine wp_skip ?_
                  refine zAf hK ?_; clear hK; clear K
                  refine wp_seq_k ?_; intro K hK
                  rw [show rec.cells (.slice a1 rec.props.length c1) (.slice a2 rec.keep.length c2) (.slice a3 rec.data.length c3) = [.int .i64 rec.kind, str rec.name, .int .i64 rec.typ, .int .i64 rec.frm, .int .i64 rec.guid, .int .i64 rec.origin, str rec.snap, .slice a1 rec.props.length c1, .int .i64 rec.object, .int .i64 rec.at_, .int .i64 rec.many, .slice a2 rec.keep.length c2, .slice a3 rec.data.length c3] from rfl] at S
                  refine zDm S (.ofL [(0, 0), (1, 0), (2, 0), (3, 0), (4, 1), (5, 0), (6, 3), (7, 2)]) [[(b17, cel [.int .i64 rec.kind, str rec.name, .int .i64 rec.typ, .int .i64 rec.frm, .int .i64 rec.guid, .int .i64 rec.origin, str rec.snap, .slice a1 rec.props.length c1, .int .i64 rec.object, .int .i64 rec.at_, .int .i64 rec.many, .slice a2 rec.keep.length c2, .slice a3 rec.data.length c3] 26)], [(b15, cel [.int .u64 own.a, .int .u64 own.b, .int .u64 own.c, .int .u64 own.d] 29)]] (fun h => h.sub (by first | (simp; done) | (simp +contextual; done) | (simp [*]; done))) (by kernel_rfl) (by kernel_rfl) ?_
                  clear S; intro w S
                  refine zm E rfl (fun w h => zBq (vs := [_, _, _, _, _, _, _, _, _, _, _, _, _]) E rfl rfl rfl (h.one (by repeat (first | exact mm1 | assumption | apply List.Mem.tail))) rfl rfl) ?_; clear E a; intro a E
                  refine zm E rfl (fun w h => zAd E rfl rfl) ?_; clear E a; intro a E
                  refine zm E rfl (fun w h => zCc E rfl rfl rfl (by first | exact zCt (y := 32) (by omega) | exact w_in (by omega) | exact zCb (by omega) | exact rfl)) ?_; clear E a; intro a E
                  refine zm E rfl (fun w h => zBq (vs := [_, _, _, _]) E rfl rfl rfl (h.one (by repeat (first | exact mm1 | assumption | apply List.Mem.tail))) rfl rfl) ?_; clear E a; intro a E
                  refine zDg rfl rfl (zBd E S rfl rfl rfl rfl (by simp [Value.oneCell']) rfl (by repeat (first | exact pk1 | apply zAc)) (by simp) ?_); clear E S a; intro a w E S; simp only [List.take_succ_cons, List.take_zero, List.drop_succ_cons, List.drop_zero, List.cons_append, List.nil_append, List.append_nil, List.length_cons, List.length_nil, Nat.zero_add, Nat.add_zero] at S; refine ⟨S.stab.sub (by first | (simp; done) | (simp +contextual; done) | (simp [*]; done)), ?_⟩
                  refine zm E rfl (fun w h => zAe E rfl rfl) ?_; clear E a; intro a E
                  refine zCy rfl rfl (zBd E S rfl rfl rfl rfl (by simp [Value.oneCell']) rfl (by repeat (first | exact pk1 | apply zAc)) (by simp) ?_); clear E S a; intro a w E S; simp only [List.take_succ_cons, List.take_zero, List.drop_succ_cons, List.drop_zero, List.cons_append, List.nil_append, List.append_nil, List.length_cons, List.length_nil, Nat.zero_add, Nat.add_zero] at S
                  refine zCs E rfl rfl rfl (by decide) (fun w => zAe E rfl rfl) ?_; clear E a; intro a E
                  refine zCd ?_
                  refine zAf hK ?_; clear hK; clear K
                  refine wp_ret ?_
                  refine zEy E rfl rfl rfl rfl rfl (S.get (by repeat (first | exact pk1 | apply zAc))) rfl (S.get (by repeat (first | exact pk1 | apply zAc))) rfl ?_
                  refine ⟨_, rfl, ?_⟩
                  show decP (decR b s) (D :: R') w0 _ _
                  rw [dec_6 h5 hkb hs2 (by omega) hse (by rw [← hk, ← hbody, htk]; simp only; omega) (by rw [← hk, ← hbody, htk]; exact ckE_yes hb), hownD, ← hn, ← hk, ← hbody, htk]
                  rw [show 5 + n + 32 = 37 + n by omega]
                  exact ⟨X, _, _, _, rfl, hX, (St.drops2 [_, _, _, _, _, _, _, _] (S.front2 (A := X) (B := D) (by repeat (first | exact pk1 | apply zAc)) (by repeat (first | exact pk1 | apply zAc)))).tr⟩
    · skip
      refine zp E (zEx E rfl rfl rfl rfl rfl rfl rfl (S.get (by repeat (first | exact pk1 | apply zAc))) (zLi hin)) ?_; clear E a; intro a E
      refine zp E (zAd E rfl rfl) ?_; clear E a; intro a E
      iterate 2 (refine zp E (zBh E rfl rfl rfl) ?_; clear E a; intro a E)
      refine zAm rfl (zBr E S rfl rfl (by decide) rfl rfl rfl ?_); clear E S a; intro a w b12 E S
      refine zAm rfl (zBd E S rfl rfl rfl rfl (by simp [Value.oneCell']) rfl (by repeat (first | exact pk1 | apply zAc)) (by simp) ?_); clear E S a; intro a w E S; simp only [List.take_succ_cons, List.take_zero, List.drop_succ_cons, List.drop_zero, List.cons_append, List.nil_append, List.append_nil, List.length_cons, List.length_nil, Nat.zero_add, Nat.add_zero] at S
      refine zp E (zAe E rfl rfl) ?_; clear E a; intro a E
      refine wpList_nil ?_
      refine zAf hK ?_; clear hK; clear K
      iterate 2 (refine wp_seq_k ?_; intro K hK)
      replace E := E.keep (e' := [(0, _), (3, _), (4, _), (5, _), (6, _), (7, _), (8, _), (10, _), (11, _), (12, _), (13, _)]) (zAb rfl (zAb rfl (zAb rfl (zAb rfl (zAb rfl (zAb rfl (zAb rfl (zAb rfl (zAb rfl (zAb rfl (zAb rfl (zAr))))))))))))
      refine zAa ?_
      refine zp E (zAd E rfl rfl) ?_; clear E a; intro a E
      refine zp E (zDl E rfl rfl) ?_; clear E a; intro a E
      refine zp E (zAd E rfl rfl) ?_; clear E a; intro a E
      refine zCo E (t := 44) rfl ((by rfl)) (fun hb44 => ?_)
      iterate 2 (refine zn E hb44 ?_; clear E a; intro a E)
      refine zp E (zAk E rfl rfl hb44 rfl) ?_; clear E a; intro a E
      refine wpList_nil ?_
      refine zAf hK ?_; clear hK; clear K
      refine zBy E rfl rfl ?_
      refine wp_seq_k ?_; intro K hK
      refine zAa ?_
      refine zp E (zAd E rfl rfl) ?_; clear E a; intro a E
      refine zCp E rfl rfl (by decide) rfl rfl Tryz.func42 rfl (by kernel_rfl) rfl (zFw 200 _ _ S.hp) ?_
      rintro v49 w ⟨rfl, hT⟩; clear E a; intro a E
      have S := S.all hT
      iterate 4 (refine zp E (zBh E rfl rfl rfl) ?_; clear E a; intro a E)
      refine zAm rfl (zBd E S rfl rfl rfl rfl (by simp [Value.oneCell']) rfl (by repeat (first | exact pk1 | apply zAc)) (by simp) ?_); clear E S a; intro a w E S; simp only [List.take_succ_cons, List.take_zero, List.drop_succ_cons, List.drop_zero, List.cons_append, List.nil_append, List.append_nil, List.length_cons, List.length_nil, Nat.zero_add, Nat.add_zero] at S
      refine zp E (zAe E rfl rfl) ?_; clear E a; intro a E
      refine zAm rfl (zBd E S rfl rfl rfl rfl (by simp [Value.oneCell']) rfl (by repeat (first | exact pk1 | apply zAc)) (by simp) ?_); clear E S a; intro a w E S; simp only [List.take_succ_cons, List.take_zero, List.drop_succ_cons, List.drop_zero, List.cons_append, List.nil_append, List.append_nil, List.length_cons, List.length_nil, Nat.zero_add, Nat.add_zero] at S
      refine zp E (zAe E rfl rfl) ?_; clear E a; intro a E
      refine wpList_nil ?_
      refine zAf hK ?_; clear hK; clear K
      refine wp_ret ?_
      refine zAv ?_; clear hK; clear K
      refine zEy E rfl rfl rfl rfl rfl (S.get (by repeat (first | exact pk1 | apply zAc))) rfl (S.get (by repeat (first | exact pk1 | apply zAc))) rfl ?_
      exact ⟨_, rfl, zHb (dec_2 h5 (by rw [← hk, ← hn]; first | exact .inl hin | exact .inr (by omega))) ((St.drops [_, _, _, _, _, _] (S.front1 (A := D) (by repeat (first | exact pk1 | apply zAc)))).addNil.tr)⟩
end Go.Proofs.YtbogecljkaimdaaGreatDoor
