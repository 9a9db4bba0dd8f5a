/-
  Texts put together (10).
-/
import Derived.Test.YtidhehcjafoneaaGreatDoorZMirrorAlone9
namespace Go.Sl
def Lk.join (o : Lk) (f t : Int) : Lk := if o.is then ⟨min f o.fr, max t o.to, true⟩ else ⟨f, t, true⟩
theorem Lk.lay_one (x : Lk) : ∀ u ∈ x.lay, u.oneCell' = true := fun u hu => by
  simp only [Lk.lay, List.mem_cons, List.not_mem_nil, or_false] at hu
  rcases hu with rfl | rfl | rfl <;> rfl
theorem lk_two {x : Lk} {j : Nat} {u : Value} (h : ([.int .u64 x.fr, .int .u64 x.to] : List Value)[j]? = some u) : x.lay[j]? = some u := by
  match j, h with
  | 0, h => exact h
  | 1, h => exact h
  | j + 2, h => simp at h
theorem hasD_flush {R : Rk} {d : Nat} (h : R.has d) (y : Dk) : (R.flush y).has d := by
  obtain ⟨x, h1, h2⟩ := h
  have : d ∈ (R.flush y).ds.map Dk.d := by
    have e := setD_ds (ds := R.ds) (d := y.d) (g := fun z => { z with pl := flP R.pw y.failed y.pl y.now }) (fun _ => rfl)
    unfold Rk.flush
    simp only
    rw [e, ← h2]
    exact List.mem_map_of_mem h1
  obtain ⟨z, h3, h4⟩ := List.mem_map.1 this
  exact ⟨z, h3, h4⟩
def flStep (s : Rk × Int) (o : Lf) : Rk × Int := match o with
  | some x => (s.1.flush (dkOf s.1 x.2), if (dkOf s.1 x.2).failed then s.2 else 0)
  | none => s
def flTo (R : Rk) (ls : List Lf) (i : Nat) : Rk × Int := (ls.take i).foldl flStep (R, 4)
theorem zKk {R : Rk} {ls : List Lf} {i : Nat} {o : Lf} (h : ls[i]? = some o) : flTo R ls (i + 1) = flStep (flTo R ls i) o := by
  obtain ⟨hi, he⟩ := List.getElem?_eq_some_iff.1 h
  unfold flTo
  rw [← List.take_append_getElem hi, he, List.foldl_append]; rfl
theorem flTo_pw (R : Rk) (ls : List Lf) : ∀ (i : Nat), (flTo R ls i).1.pw = R.pw := by
  intro i
  unfold flTo
  generalize ls.take i = l
  suffices h : ∀ (l : List Lf) (s : Rk × Int), (l.foldl flStep s).1.pw = s.1.pw by exact h l _
  intro l
  induction l with
  | nil => intro s; rfl
  | cons o r ih =>
    intro s
    rw [List.foldl_cons, ih]
    cases o <;> rfl
theorem flTo_has (R : Rk) (ls : List Lf) {d : Nat} (hd : R.has d) (i : Nat) : (flTo R ls i).1.has d := by
  unfold flTo
  generalize ls.take i = l
  suffices h : ∀ (l : List Lf) (s : Rk × Int), s.1.has d → (l.foldl flStep s).1.has d by exact h l _ hd
  intro l
  induction l with
  | nil => intro s h; exact h
  | cons o r ih =>
    intro s h
    rw [List.foldl_cons]
    refine ih _ ?_
    cases o with
    | none => exact h
    | some x => exact hasD_flush h _
end Go.Sl
namespace Go.Proofs.YtidhehcjafoneaaGreatDoor
open Go.Sl
set_option maxRecDepth 10000
abbrev LkB (CK : zAs) (vk : Value) (lk : List Lk) : Prop := Buf CK 120 3 vk lk.length (lk.flatMap Lk.lay)
theorem behind_ret (t : Nat) (vl vk : Value) (sz : Int) (lk : List Lk) (CK : zAs) (hCK : LkB CK vk lk) (i : Nat) (hi : i < lk.length) (f g : Int) (w0 : World) (H : Hp w0 [[(t, mtcl vl vk sz)], CK]) :
    Ret Tryz.prog 37 #[ptr t, .int .i64 i, .agg #[.int .u64 f, .int .u64 g]] w0 fun _ w' => ∃ CK', LkB CK' vk (lk.set i (lk[i].join f g)) ∧ Trs w0 w' [[(t, mtcl vl vk sz)], CK] [[(t, mtcl vl vk sz)], CK'] := by
  have S := St.begin H
  obtain ⟨ad, c, rfl⟩ := hCK.slice
  obtain ⟨gb, rfl⟩ := hCK.addr (by omega)
  refine zEs 37 Tryz.func37 rfl rfl (by decide) ?_; intro a E
  refine wp_seq_k ?_; intro K hK
  refine zAc ?_
  refine zAo rfl (zCs E S rfl rfl (by decide) rfl rfl ?_); clear E S a; intro a w b5 E S
  refine wpList_nil ?_
  refine zAh hK ?_; clear hK; clear K
  iterate 2 (refine wp_seq_k ?_; intro K hK)
  refine zAc ?_
  refine zp E (zAe E rfl rfl) ?_; clear E a; intro a E
  refine zp E (zAl E rfl rfl) ?_; clear E a; intro a E
  refine zp E (by first | exact zAf (q := 1) E rfl rfl rfl | exact zAi (q := 1) E rfl rfl rfl) ?_; clear E a; intro a E
  refine zp E (by first | exact zAn E rfl rfl rfl (S.get (by repeat (first | exact pk1 | apply zAa))) rfl | exact zAj E rfl rfl rfl (by assumption)) ?_; clear E a; intro a E
  refine zp E (zAe E rfl rfl) ?_; clear E a; intro a E
  refine zp E (by first | exact zBk E rfl rfl rfl rfl rfl rfl (by omega) | exact zBn E rfl rfl rfl rfl rfl rfl (by omega) | exact zAx E rfl rfl rfl rfl rfl rfl (by omega)) ?_; clear E a; intro a E
  refine zp E (zDo (vs := [_, _, _]) E rfl rfl rfl rfl (hCK.rd.elem (lay := Lk.lay) Lk.lay_len (S.stab.at (by repeat (first | exact mm1 | assumption | apply List.Mem.tail))) hi)) ?_; clear E a; intro a E
  refine zAo rfl (zCc E S rfl rfl (by decide) rfl rfl rfl ?_); clear E S a; intro a w b6 E S
  refine zAo rfl (zCg E S rfl rfl rfl rfl (by simp [Value.oneCell']) rfl (by repeat (first | exact pk1 | apply zAa)) (by simp) ?_); clear E S a; intro a w E S; simp only [List.take_succ_cons, List.take_zero, List.drop_succ_cons, List.drop_zero, List.cons_append, List.nil_append, List.append_nil, List.length_cons, List.length_nil, Nat.zero_add, Nat.add_zero] at S
  refine wpList_nil ?_
  refine zAh hK ?_; clear hK; clear K
  refine wp_seq_k ?_; intro K hK
  refine zAc ?_
  refine zp E (by first | exact zAf (q := 2) E rfl rfl rfl | exact zAi (q := 2) E rfl rfl rfl) ?_; clear E a; intro a E
  refine zp E (by first | exact zAn E rfl rfl rfl (S.get (by repeat (first | exact pk1 | apply zAa))) rfl | exact zAj E rfl rfl rfl (by assumption)) ?_; clear E a; intro a E
  refine wpList_nil ?_
  refine zAh hK ?_; clear hK; clear K
  refine zFe (fun (a : Act) (w' : World) => ∃ (f' g' : Int), f' = (lk[i].join f g).fr ∧ g' = (lk[i].join f g).to ∧ (∃ Xs, St w0 [[(t, mtcl vl (.slice (some ⟨gb, 0, none⟩) lk.length c) sz)], CK] w' ([(t, mtcl vl (.slice (some ⟨gb, 0, none⟩) lk.length c) sz)] :: CK :: [(b5, cel [.int .u64 f', .int .u64 g'] 62)] :: Xs)) ∧ Fr a 37 [(0, ptr t), (1, .int .i64 i), (5, ptr b5)]) ?_ ?_
  · skip
    refine zBl E rfl (fun hb => ?_) (fun hb => ?_)
    · replace hb := Nrm.nrm hb
      refine zAc ?_
      refine zp E (by first | exact zAf (q := 0) E rfl rfl rfl | exact zAi (q := 0) E rfl rfl rfl) ?_; clear E a; intro a E
      refine zp E (by first | exact zAn E rfl rfl rfl (S.get (by repeat (first | exact pk1 | apply zAa))) rfl | exact zAj E rfl rfl rfl (by assumption)) ?_; clear E a; intro a E
      iterate 2 (refine zp E (by first | exact zAf (q := 0) E rfl rfl rfl | exact zAi (q := 0) E rfl rfl rfl) ?_; clear E a; intro a E)
      refine zp E (by first | exact zAn E rfl rfl rfl (S.get (by repeat (first | exact pk1 | apply zAa))) rfl | exact zAj E rfl rfl rfl (by assumption)) ?_; clear E a; intro a E
      refine zp E (rn_min E rfl rfl rfl) ?_; clear E a; intro a E
      refine zp E (by first | exact zAf (q := 1) E rfl rfl rfl | exact zAi (q := 1) E rfl rfl rfl) ?_; clear E a; intro a E
      refine zp E (by first | exact zAn E rfl rfl rfl (S.get (by repeat (first | exact pk1 | apply zAa))) rfl | exact zAj E rfl rfl rfl (by assumption)) ?_; clear E a; intro a E
      refine zp E (by first | exact zAf (q := 0) E rfl rfl rfl | exact zAi (q := 0) E rfl rfl rfl) ?_; clear E a; intro a E
      refine zp E (by first | exact zAf (q := 1) E rfl rfl rfl | exact zAi (q := 1) E rfl rfl rfl) ?_; clear E a; intro a E
      refine zp E (by first | exact zAn E rfl rfl rfl (S.get (by repeat (first | exact pk1 | apply zAa))) rfl | exact zAj E rfl rfl rfl (by assumption)) ?_; clear E a; intro a E
      refine zp E (rn_max E rfl rfl rfl) ?_; clear E a; intro a E
      refine zp E (zCo (cells := [_, _]) E rfl rfl rfl) ?_; clear E a; intro a E
      refine zAo rfl (zCg E S rfl rfl rfl rfl (by simp [Value.oneCell']) rfl (by repeat (first | exact pk1 | apply zAa)) (by simp) ?_); clear E S a; intro a w E S; simp only [List.take_succ_cons, List.take_zero, List.drop_succ_cons, List.drop_zero, List.cons_append, List.nil_append, List.append_nil, List.length_cons, List.length_nil, Nat.zero_add, Nat.add_zero] at S
      refine wpList_nil ?_
      refine zBp ?_
      exact ⟨_, _, by unfold Lk.join; rw [if_pos hb], by unfold Lk.join; rw [if_pos hb], ⟨_, S.front3 (A := [(t, _)]) (by repeat (first | exact pk1 | apply zAa)) (B := CK) (by repeat (first | exact pk1 | apply zAa)) (C := [(b5, _)]) (by repeat (first | exact pk1 | apply zAa))⟩, E.keep (zAb rfl (zAb rfl (zAb rfl zAp)))⟩
    · replace hb := Nrm.nrm hb
      refine wp_skip ?_
      refine zBp ?_
      exact ⟨f, g, by unfold Lk.join; rw [if_neg (by simp [hb])], by unfold Lk.join; rw [if_neg (by simp [hb])], ⟨_, S.front3 (A := [(t, _)]) (by repeat (first | exact pk1 | apply zAa)) (B := CK) (by repeat (first | exact pk1 | apply zAa)) (C := [(b5, _)]) (by repeat (first | exact pk1 | apply zAa))⟩, E.keep (zAb rfl (zAb rfl (zAb rfl zAp)))⟩
  · clear S E a; intro a w J; obtain ⟨f', g', hf', hg', ⟨Xs, S⟩, E⟩ := J
    refine zAh hK ?_; clear hK; clear K
    refine zDt S (.ofL [(0, 0), (1, 0), (2, 0), (3, 0), (4, 0), (5, 0), (6, 0), (7, 0), (8, 3)]) [[(t, mtcl vl (.slice (some ⟨gb, 0, none⟩) lk.length c) sz)], [(b5, cel [.int .u64 f', .int .u64 g'] 62)]] (fun h => h.sub (by first | (simp; done) | (simp +contextual; done) | (simp [*]; done))) (by kernel_rfl) (by kernel_rfl) ?_
    clear S; intro w S
    refine zm E rfl (fun w h => zAe E rfl rfl) ?_; clear E a; intro a E
    refine zm E rfl (fun w h => zAl E rfl rfl) ?_; clear E a; intro a E
    refine zm E rfl (fun w h => by first | exact zAf (q := 1) E rfl rfl rfl | exact zAi (q := 1) E rfl rfl rfl) ?_; clear E a; intro a E
    refine zm E rfl (fun w h => by first | exact zAn E rfl rfl rfl (h.one (by repeat (first | exact mm1 | assumption | apply List.Mem.tail))) rfl | exact zAj E rfl rfl rfl (by assumption)) ?_; clear E a; intro a E
    refine zm E rfl (fun w h => zAe E rfl rfl) ?_; clear E a; intro a E
    refine zm E rfl (fun w h => zBw (vs := [_, _]) E rfl rfl rfl (h.one (by repeat (first | exact mm1 | assumption | apply List.Mem.tail))) rfl rfl) ?_; clear E a; intro a E
    refine zm E rfl (fun w h => zCo (cells := [_, _, _]) E rfl rfl rfl) ?_; clear E a; intro a E
    refine zm E rfl (fun w h => by first | exact zBk E rfl rfl rfl rfl rfl rfl (by omega) | exact zBn E rfl rfl rfl rfl rfl rfl (by omega) | exact zAx E rfl rfl rfl rfl rfl rfl (by omega)) ?_; clear E a; intro a E
    refine zCq rfl rfl (wp_elem E S rfl rfl rfl rfl (lay := Lk.lay) (y := lk[i].join f g) (i := i) (by rw [hf', hg']; unfold Lk.join; split <;> rfl) (Lk.lay_one _) rfl Lk.lay_len hCK (by repeat (first | exact pk1 | apply zAa)) hi (Nat.zero_add _) ?_); clear E S a; intro a w Cs8 E hBs8 S
    refine zBs ?_
    refine end0 E rfl ?_
    exact ⟨_, rfl, _, by show Buf _ _ 3 _ (lk.set i _).length _; rw [List.length_set]; exact hBs8, (S.front2 (A := [(t, _)]) (by repeat (first | exact pk1 | apply zAa)) (B := Cs8) (by repeat (first | exact pk1 | apply zAa)) |>.only (Bs := [[(t, _)], Cs8]) (zAd (by repeat (first | exact pk1 | apply zAa)) (zAd (by repeat (first | exact pk1 | apply zAa)) (zAk _)))).tr⟩
theorem mhas_ret (t : Nat) (vk : Value) (sz : Int) (ad : Option Addr) (n c : Nat) (i : Int) (w0 : World) (H : Hp w0 [[(t, mtcl (.slice ad n c) vk sz)]]) :
    Ret Tryz.prog 50 #[ptr t, .int .i64 i] w0 fun u w' => u = .bool (decide (0 ≤ i ∧ i < n)) ∧ Trs w0 w' [[(t, mtcl (.slice ad n c) vk sz)]] [[(t, mtcl (.slice ad n c) vk sz)]] := by
  have S := St.begin H
  refine zCy 16 Tryz.func50 rfl rfl (by decide) ?_; intro a E
  refine wp_seq_k ?_; intro K hK
  refine zAc ?_
  refine zp E (zAg E rfl rfl) ?_; clear E a; intro a E
  refine wpList_nil ?_
  refine zAh hK ?_; clear hK; clear K
  refine wp_seq_k ?_; intro K hK
  refine zAc ?_
  refine zp E (zAe E rfl rfl) ?_; clear E a; intro a E
  refine zp E (zDs E rfl rfl rfl) ?_; clear E a; intro a E
  refine zp E (zAe E rfl rfl) ?_; clear E a; intro a E
  refine zAy E (t := 7) rfl (fun hb7 => ?_) (fun hb7 => ?_)
  · have hb7n := hb7; replace hb7n := Nrm.nrm hb7n
    iterate 2 (refine zy E hb7 (zAe E rfl rfl) ?_; clear E a; intro a E)
    refine zy E hb7 (zAl E rfl rfl) ?_; clear E a; intro a E
    refine zy E hb7 (by first | exact zAf (q := 0) E rfl rfl rfl | exact zAi (q := 0) E rfl rfl rfl) ?_; clear E a; intro a E
    refine zy E hb7 (by first | exact zAn E rfl rfl rfl (S.get (by repeat (first | exact pk1 | apply zAa))) rfl | exact zAj E rfl rfl rfl (by assumption)) ?_; clear E a; intro a E
    refine zy E hb7 (by first | exact zCa E rfl rfl rfl | exact zBa E rfl rfl rfl | exact zAt E rfl rfl rfl) ?_; clear E a; intro a E
    refine zy E hb7 (zCb E rfl rfl rfl) ?_; clear E a; intro a E
    refine zp E (zAm E rfl rfl hb7 rfl) ?_; clear E a; intro a E
    refine zp E (zAg E rfl rfl) ?_; clear E a; intro a E
    refine wpList_nil ?_
    refine zAh hK ?_; clear hK; clear K
    refine wp_ret ?_
    refine ret1 E rfl rfl ?_
    refine ⟨_, rfl, congrArg _ ?_, S.tr⟩
    rw [Bool.eq_iff_iff, decide_eq_true_eq]
    first | (simp; omega) | (simp only [decide_eq_true_eq]; omega) | (simp only [Bool.false_eq_true, false_iff]; omega)
  · have hb7n := hb7; replace hb7n := Nrm.nrm hb7n
    iterate 7 (refine zn E hb7 ?_; clear E a; intro a E)
    refine zp E (zAq E rfl rfl hb7 rfl) ?_; clear E a; intro a E
    refine zp E (zAg E rfl rfl) ?_; clear E a; intro a E
    refine wpList_nil ?_
    refine zAh hK ?_; clear hK; clear K
    refine wp_ret ?_
    refine ret1 E rfl rfl ?_
    refine ⟨_, rfl, congrArg _ ?_, S.tr⟩
    rw [Bool.eq_iff_iff, decide_eq_true_eq]
    first | (simp; omega) | (simp only [decide_eq_true_eq]; omega) | (simp only [Bool.false_eq_true, false_iff]; omega)
theorem mbehind_ret (t : Nat) (vk : Value) (ad : Option Addr) (cl : Nat) (sz : Int) (lk : List Lk) (CK : zAs) (hCK : LkB CK vk lk) (i : Nat) (hi : i < lk.length) (f g : Int) (h1 : 1 ≤ f) (h2 : f ≤ g) (h3 : g ≤ 281474976710656) (w0 : World) (H : Hp w0 [[(t, mtcl (.slice ad lk.length cl) vk sz)], CK]) :
    Ret Tryz.prog 19 #[ptr t, .int .i64 i, .agg #[.int .u64 f, .int .u64 g]] w0 fun u w' => u = .int .i64 0 ∧ ∃ CK', LkB CK' vk (lk.set i (lk[i].join f g)) ∧ Trs w0 w' [[(t, mtcl (.slice ad lk.length cl) vk sz)], CK] [[(t, mtcl (.slice ad lk.length cl) vk sz)], CK'] := by
  have S := St.begin H
  refine zEs 32 Tryz.func19 rfl rfl (by decide) ?_; intro a E
  refine wp_seq_k ?_; intro K hK
  refine zAc ?_
  refine zAo rfl (zCs E S rfl rfl (by decide) rfl rfl ?_); clear E S a; intro a w b5 E S
  refine zp E (zAg E rfl rfl) ?_; clear E a; intro a E
  refine wpList_nil ?_
  refine zAh hK ?_; clear hK; clear K
  iterate 2 (refine wp_seq_k ?_; intro K hK)
  refine zAc ?_
  iterate 2 (refine zp E (zAe E rfl rfl) ?_; clear E a; intro a E)
  refine zAr E rfl rfl (by decide) rfl Tryz.func50 rfl (by kernel_rfl) rfl (mhas_ret t vk sz ad lk.length cl i _ (S.hp.sel (zAd (by repeat (first | exact pk1 | apply zAa)) (zAk _)))) ?_
  rintro v9 w ⟨rfl, hT⟩; clear E a; intro a E
  have S := S.call1 (zAd (by repeat (first | exact pk1 | apply zAa)) (zAk _)) hT
  refine zp E (zEg E rfl rfl) ?_; clear E a; intro a E
  refine zp E (zAe E rfl rfl) ?_; clear E a; intro a E
  refine zCh E (t := 11) rfl ((by simp; omega)) (fun hb11 => ?_)
  refine zy E hb11 (by first | exact zAf (q := 0) E rfl rfl rfl | exact zAi (q := 0) E rfl rfl rfl) ?_; clear E a; intro a E
  refine zy E hb11 (by first | exact zAn E rfl rfl rfl (S.get (by repeat (first | exact pk1 | apply zAa))) rfl | exact zAj E rfl rfl rfl (by assumption)) ?_; clear E a; intro a E
  refine zy E hb11 (zCb E rfl rfl rfl) ?_; clear E a; intro a E
  refine zp E (zAq E rfl rfl hb11 rfl) ?_; clear E a; intro a E
  refine zp E (zAe E rfl rfl) ?_; clear E a; intro a E
  refine zCh E (t := 16) rfl ((by simp; omega)) (fun hb16 => ?_)
  refine zy E hb16 (by first | exact zAf (q := 0) E rfl rfl rfl | exact zAi (q := 0) E rfl rfl rfl) ?_; clear E a; intro a E
  refine zy E hb16 (by first | exact zAn E rfl rfl rfl (S.get (by repeat (first | exact pk1 | apply zAa))) rfl | exact zAj E rfl rfl rfl (by assumption)) ?_; clear E a; intro a E
  refine zy E hb16 (by first | exact zAf (q := 1) E rfl rfl rfl | exact zAi (q := 1) E rfl rfl rfl) ?_; clear E a; intro a E
  refine zy E hb16 (by first | exact zAn E rfl rfl rfl (S.get (by repeat (first | exact pk1 | apply zAa))) rfl | exact zAj E rfl rfl rfl (by assumption)) ?_; clear E a; intro a E
  refine zy E hb16 (zDd E rfl rfl rfl) ?_; clear E a; intro a E
  refine zp E (zAq E rfl rfl hb16 rfl) ?_; clear E a; intro a E
  refine zp E (zAe E rfl rfl) ?_; clear E a; intro a E
  refine zCh E (t := 23) rfl ((by simp; omega)) (fun hb23 => ?_)
  refine zy E hb23 (by first | exact zAf (q := 1) E rfl rfl rfl | exact zAi (q := 1) E rfl rfl rfl) ?_; clear E a; intro a E
  refine zy E hb23 (by first | exact zAn E rfl rfl rfl (S.get (by repeat (first | exact pk1 | apply zAa))) rfl | exact zAj E rfl rfl rfl (by assumption)) ?_; clear E a; intro a E
  refine zy E hb23 (zDd E rfl rfl rfl) ?_; clear E a; intro a E
  refine zp E (zAq E rfl rfl hb23 rfl) ?_; clear E a; intro a E
  refine wpList_nil ?_
  refine zAh hK ?_; clear hK; clear K
  refine zBt E rfl ((by simp; omega)) ?_
  refine wp_skip ?_
  refine zAh hK ?_; clear hK; clear K
  refine wp_seq_k ?_; intro K hK
  replace E := E.keep (e' := [(0, _), (1, _), (5, _), (6, _)]) (zAb rfl (zAb rfl (zAb rfl (zAb rfl (zAp)))))
  refine zAc ?_
  iterate 2 (refine zp E (zAe E rfl rfl) ?_; clear E a; intro a E)
  refine zp E (zBw (vs := [_, _]) E rfl rfl rfl (S.get (by repeat (first | exact pk1 | apply zAa))) rfl rfl) ?_; clear E a; intro a E
  refine zAr E rfl rfl (by decide) rfl Tryz.func37 rfl (by kernel_rfl) rfl (behind_ret t _ vk sz lk CK hCK i hi f g _ (S.hp.sel (zAd (by repeat (first | exact pk1 | apply zAa)) (zAd (by repeat (first | exact pk1 | apply zAa)) (zAk _))))) ?_
  rintro v31 w ⟨CK', hCK', hT⟩; clear E a; intro a E
  have S := S.call2 (zAd (by repeat (first | exact pk1 | apply zAa)) (zAd (by repeat (first | exact pk1 | apply zAa)) (zAk _))) hT
  refine wpList_nil ?_
  refine zAh hK ?_; clear hK; clear K
  refine wp_seq_k ?_; intro K hK
  refine zAc ?_
  refine zp E (zAg E rfl rfl) ?_; clear E a; intro a E
  refine wpList_nil ?_
  refine zAh hK ?_; clear hK; clear K
  refine wp_ret ?_
  refine ret1 E rfl rfl ?_
  exact ⟨_, rfl, rfl, CK', hCK', (S.only (Bs := [[(t, _)], CK']) (zAd (by repeat (first | exact pk1 | apply zAa)) (zAd (by repeat (first | exact pk1 | apply zAa)) (zAk _)))).tr⟩
theorem mlacks_ret (t : Nat) (vk : Value) (ad : Option Addr) (cl : Nat) (sz : Int) (lk : List Lk) (CK : zAs) (hCK : LkB CK vk lk) (i : Nat) (hi : i < lk.length) (w0 : World) (H : Hp w0 [[(t, mtcl (.slice ad lk.length cl) vk sz)], CK]) :
    Ret Tryz.prog 20 #[ptr t, .int .i64 i] w0 fun u w' => u = .tuple #[.agg #[.int .u64 lk[i].fr, .int .u64 lk[i].to], .bool lk[i].is] ∧ Trs w0 w' [[(t, mtcl (.slice ad lk.length cl) vk sz)], CK] [[(t, mtcl (.slice ad lk.length cl) vk sz)], CK] := by
  have S := St.begin H
  obtain ⟨adk, ck, rfl⟩ := hCK.slice
  obtain ⟨gb, rfl⟩ := hCK.addr (by omega)
  refine zCy 27 Tryz.func20 rfl rfl (by decide) ?_; intro a E
  refine wp_seq_k ?_; intro K hK
  refine zAc ?_
  refine zAo rfl (zCc E S rfl rfl (by decide) rfl rfl rfl ?_); clear E S a; intro a w b4 E S
  refine zp E (zAg E rfl rfl) ?_; clear E a; intro a E
  refine wpList_nil ?_
  refine zAh hK ?_; clear hK; clear K
  iterate 2 (refine wp_seq_k ?_; intro K hK)
  refine zAc ?_
  iterate 2 (refine zp E (zAe E rfl rfl) ?_; clear E a; intro a E)
  refine zAr E rfl rfl (by decide) rfl Tryz.func50 rfl (by kernel_rfl) rfl (mhas_ret t _ sz ad lk.length cl i _ (S.hp.sel (zAd (by repeat (first | exact pk1 | apply zAa)) (zAk _)))) ?_
  rintro v8 w ⟨rfl, hT⟩; clear E a; intro a E
  have S := S.call1 (zAd (by repeat (first | exact pk1 | apply zAa)) (zAk _)) hT
  refine zp E (zEg E rfl rfl) ?_; clear E a; intro a E
  refine wpList_nil ?_
  refine zAh hK ?_; clear hK; clear K
  refine zBt E rfl ((by simp; omega)) ?_
  refine wp_skip ?_
  refine zAh hK ?_; clear hK; clear K
  refine wp_seq_k ?_; intro K hK
  refine zDt S (.ofL [(0, 0), (1, 0), (2, 0), (3, 0), (4, 0), (5, 0), (6, 0), (7, 0), (8, 0), (9, 0), (10, 0), (11, 0), (12, 0), (13, 0), (14, 0), (15, 0), (16, 1), (17, 0)]) [[(t, mtcl (.slice ad lk.length cl) (.slice (some ⟨gb, 0, none⟩) lk.length ck) sz)], CK] (fun h => h.sub (by first | (simp; done) | (simp +contextual; done) | (simp [*]; done))) (by kernel_rfl) (by kernel_rfl) ?_
  clear S; intro w S
  refine zm E rfl (fun w h => zAe E rfl rfl) ?_; clear E a; intro a E
  refine zm E rfl (fun w h => zAl E rfl rfl) ?_; clear E a; intro a E
  refine zm E rfl (fun w h => by first | exact zAf (q := 1) E rfl rfl rfl | exact zAi (q := 1) E rfl rfl rfl) ?_; clear E a; intro a E
  refine zm E rfl (fun w h => by first | exact zAn E rfl rfl rfl (h.one (by repeat (first | exact mm1 | assumption | apply List.Mem.tail))) rfl | exact zAj E rfl rfl rfl (by assumption)) ?_; clear E a; intro a E
  refine zm E rfl (fun w h => zAe E rfl rfl) ?_; clear E a; intro a E
  refine zm E rfl (fun w h => zBn (i := i) (s := 3) E rfl rfl rfl rfl rfl rfl (by omega)) ?_; clear E a; intro a E
  refine zm E rfl (fun w h => by first | exact zAf (q := 0) E rfl rfl rfl | exact zAi (q := 0) E rfl rfl rfl) ?_; clear E a; intro a E
  refine zm E rfl (fun w h => zDo (vs := [.int .u64 lk[i].fr, .int .u64 lk[i].to]) E rfl rfl rfl rfl (fun j u hu => hCK.rd.elem (lay := Lk.lay) Lk.lay_len (h.at (by repeat (first | exact mm1 | assumption | apply List.Mem.tail))) hi j u (lk_two hu))) ?_; clear E a; intro a E
  refine zm E rfl (fun w h => zAe E rfl rfl) ?_; clear E a; intro a E
  refine zm E rfl (fun w h => zAl E rfl rfl) ?_; clear E a; intro a E
  refine zm E rfl (fun w h => by first | exact zAf (q := 1) E rfl rfl rfl | exact zAi (q := 1) E rfl rfl rfl) ?_; clear E a; intro a E
  refine zm E rfl (fun w h => by first | exact zAn E rfl rfl rfl (h.one (by repeat (first | exact mm1 | assumption | apply List.Mem.tail))) rfl | exact zAj E rfl rfl rfl (by assumption)) ?_; clear E a; intro a E
  refine zm E rfl (fun w h => zAe E rfl rfl) ?_; clear E a; intro a E
  refine zm E rfl (fun w h => zBn (i := i) (s := 3) E rfl rfl rfl rfl rfl rfl (by omega)) ?_; clear E a; intro a E
  refine zm E rfl (fun w h => by first | exact zAf (q := 2) E rfl rfl rfl | exact zAi (q := 2) E rfl rfl rfl) ?_; clear E a; intro a E
  refine zm E rfl (fun w h => zAj E rfl rfl rfl (hCK.rd.elem (lay := Lk.lay) Lk.lay_len (h.at (by repeat (first | exact mm1 | assumption | apply List.Mem.tail))) hi 2 (.bool lk[i].is) rfl)) ?_; clear E a; intro a E
  refine zDp rfl rfl (zCg E S rfl rfl rfl rfl (by simp [Value.oneCell']) rfl (by repeat (first | exact pk1 | apply zAa)) (by simp) ?_); clear E S a; intro a w E S; simp only [List.take_succ_cons, List.take_zero, List.drop_succ_cons, List.drop_zero, List.cons_append, List.nil_append, List.append_nil, List.length_cons, List.length_nil, Nat.zero_add, Nat.add_zero] at S; refine ⟨S.stab.sub (by first | (simp; done) | (simp +contextual; done) | (simp [*]; done)), ?_⟩
  refine zm E rfl (fun w h => zAg E rfl rfl) ?_; clear E a; intro a E
  refine zBs ?_
  refine zAh hK ?_; clear hK; clear K
  refine wp_ret ?_
  refine zKb E rfl rfl rfl (S.get (by repeat (first | exact pk1 | apply zAa))) rfl ?_
  exact ⟨_, rfl, rfl, (S.only (Bs := [[(t, _)], CK]) (zAd (by repeat (first | exact pk1 | apply zAa)) (zAd (by repeat (first | exact pk1 | apply zAa)) (zAk _)))).tr⟩
theorem mwhole_ret (t : Nat) (vk : Value) (ad : Option Addr) (cl : Nat) (sz : Int) (lk : List Lk) (CK : zAs) (hCK : LkB CK vk lk) (i : Nat) (hi : i < lk.length) (w0 : World) (H : Hp w0 [[(t, mtcl (.slice ad lk.length cl) vk sz)], CK]) :
    Ret Tryz.prog 21 #[ptr t, .int .i64 i] w0 fun u w' => u = .int .i64 0 ∧ ∃ CK', LkB CK' vk (lk.set i zGg) ∧ Trs w0 w' [[(t, mtcl (.slice ad lk.length cl) vk sz)], CK] [[(t, mtcl (.slice ad lk.length cl) vk sz)], CK'] := by
  have S := St.begin H
  obtain ⟨adk, ck, rfl⟩ := hCK.slice
  obtain ⟨gb, rfl⟩ := hCK.addr (by omega)
  refine zCy 16 Tryz.func21 rfl rfl (by decide) ?_; intro a E
  refine wp_seq_k ?_; intro K hK
  refine zAc ?_
  refine zp E (zAg E rfl rfl) ?_; clear E a; intro a E
  refine wpList_nil ?_
  refine zAh hK ?_; clear hK; clear K
  iterate 2 (refine wp_seq_k ?_; intro K hK)
  refine zAc ?_
  iterate 2 (refine zp E (zAe E rfl rfl) ?_; clear E a; intro a E)
  refine zAr E rfl rfl (by decide) rfl Tryz.func50 rfl (by kernel_rfl) rfl (mhas_ret t _ sz ad lk.length cl i _ (S.hp.sel (zAd (by repeat (first | exact pk1 | apply zAa)) (zAk _)))) ?_
  rintro v7 w ⟨rfl, hT⟩; clear E a; intro a E
  have S := S.call1 (zAd (by repeat (first | exact pk1 | apply zAa)) (zAk _)) hT
  refine zp E (zEg E rfl rfl) ?_; clear E a; intro a E
  refine wpList_nil ?_
  refine zAh hK ?_; clear hK; clear K
  refine zBt E rfl ((by simp; omega)) ?_
  refine wp_skip ?_
  refine zAh hK ?_; clear hK; clear K
  refine wp_seq_k ?_; intro K hK
  refine zAc ?_
  refine zp E (zAe E rfl rfl) ?_; clear E a; intro a E
  refine zp E (zAl E rfl rfl) ?_; clear E a; intro a E
  refine zp E (by first | exact zAf (q := 1) E rfl rfl rfl | exact zAi (q := 1) E rfl rfl rfl) ?_; clear E a; intro a E
  refine zp E (by first | exact zAn E rfl rfl rfl (S.get (by repeat (first | exact pk1 | apply zAa))) rfl | exact zAj E rfl rfl rfl (by assumption)) ?_; clear E a; intro a E
  refine zp E (zAe E rfl rfl) ?_; clear E a; intro a E
  refine zp E (zCo (cells := [_, _, _]) E rfl rfl rfl) ?_; clear E a; intro a E
  refine zp E (by first | exact zBk E rfl rfl rfl rfl rfl rfl (by omega) | exact zBn E rfl rfl rfl rfl rfl rfl (by omega) | exact zAx E rfl rfl rfl rfl rfl rfl (by omega)) ?_; clear E a; intro a E
  refine zAo rfl (wp_elem E S rfl rfl rfl rfl (lay := Lk.lay) (y := zGg) (i := i) rfl (Lk.lay_one _) rfl Lk.lay_len hCK (by repeat (first | exact pk1 | apply zAa)) hi (Nat.zero_add _) ?_); clear E S a; intro a w Cs7 E hBs7 S
  refine wpList_nil ?_
  refine zAh hK ?_; clear hK; clear K
  refine wp_seq_k ?_; intro K hK
  refine zAc ?_
  refine zp E (zAg E rfl rfl) ?_; clear E a; intro a E
  refine wpList_nil ?_
  refine zAh hK ?_; clear hK; clear K
  refine wp_ret ?_
  refine ret1 E rfl rfl ?_
  exact ⟨_, rfl, rfl, _, by show Buf _ _ 3 _ (lk.set i _).length _; rw [List.length_set]; exact hBs7, (S.front2 (A := [(t, _)]) (by repeat (first | exact pk1 | apply zAa)) (B := Cs7) (by repeat (first | exact pk1 | apply zAa)) |>.only (Bs := [[(t, _)], Cs7]) (zAd (by repeat (first | exact pk1 | apply zAa)) (zAd (by repeat (first | exact pk1 | apply zAa)) (zAk _)))).tr⟩
end Go.Proofs.YtidhehcjafoneaaGreatDoor
namespace Go.Sl
theorem flE_on {s : Pw} (h : s.off = false) (b : Bool) : flE s b ≠ 5 ∧ (flE s b = 0 ↔ b = false) := by
  unfold flE
  rw [h]
  cases b <;> simp
end Go.Sl
namespace Go.Proofs.YtidhehcjafoneaaGreatDoor
open Go.Sl
set_option maxRecDepth 10000
theorem mflush_ret (P : Nat) (R : Rk) (C : zAs) (hC : RkC P R C) (hoff : R.pw.off = false) (ls : List Lf) (Lv : zAs) (hLv : LvC ls Lv) (hds : ∀ x, some x ∈ ls → R.has x.2) (hl : ls.length ≤ 5) (t : Nat) (vl vk : Value) (z : Int)
    (CL : zAs) (hCL : Buf CL 49 1 vl ls.length (ls.map lv)) (w0 : World) (H : Hp w0 [C, Lv, [(t, mtcl vl vk z)], CL]) :
    Ret Tryz.prog 16 #[ptr t] w0 fun u w' => u = .int .i64 (flTo R ls ls.length).2 ∧ ∃ C' Lv', RkC P (flTo R ls ls.length).1 C' ∧ LvC ls Lv' ∧ Trs w0 w' [C, Lv, [(t, mtcl vl vk z)], CL] [C', Lv', [(t, mtcl vl vk z)], CL] := by
  have S := St.begin H
  refine enterM1 17 Tryz.func16 rfl rfl (by decide) ?_; intro a E
  refine wp_seq_k ?_; intro K hK
  refine zAc ?_
  refine zAo rfl (zCc E S rfl rfl (by decide) rfl rfl rfl ?_); clear E S a; intro a w b2 E S
  refine wpList_nil ?_
  refine zAh hK ?_; clear hK; clear K
  refine wp_seq_k ?_; intro K hK
  refine zAc ?_
  refine zAo rfl (zCc E S rfl rfl (by decide) rfl rfl rfl ?_); clear E S a; intro a w b3 E S
  refine zAo rfl (zBg E S rfl rfl rfl rfl rfl rfl (by repeat (first | exact pk1 | apply zAa)) (by first | exact Nat.le_of_ble_eq_true rfl | (simp; done) | (simp; omega)) ?_); clear E S a; intro a w E S; try dsimp only [List.set] at S
  refine wpList_nil ?_
  refine zAh hK ?_; clear hK; clear K
  iterate 2 (refine wp_seq_k ?_; intro K hK)
  refine zAc ?_
  refine zp E (zAe E rfl rfl) ?_; clear E a; intro a E
  refine zAr E rfl rfl (by decide) rfl Tryz.func48 rfl (by kernel_rfl) rfl (zKj t _) ?_
  rintro v7 w ⟨bt, rfl, hT⟩; clear E a; intro a E
  have S := S.fresh hT
  refine wpList_nil ?_
  refine zAh hK ?_; clear hK; clear K
  refine wp_block ?_
  refine wp_range E S rfl Tryz.func75 rfl (by kernel_rfl) (fun rc lp rp w hL S => ?_)
  refine CallsIn.mono (there_in lp bt t ls (by omega) _ CL hCL vk z (fun i w' => ∃ Ci Li, RkC P (flTo R ls i).1 Ci ∧ LvC ls Li ∧ St w0 [C, Lv, [(t, mtcl vl vk z)], CL] w' [[(lp, .loop rc)], [(rp, .deferred (some []))], [(bt, cel [ptr t] 38)], [(b3, cel [.int .i64 (flTo R ls i).2] 32)], [(b2, cel [.int .i64 0] 32)], Ci, Li, [(t, mtcl vl vk z)], CL]) (fun w' => False) ?_ ?_ ?_ ?_ _ ?_) ?_
  · rintro w ⟨Ci, Li, hCi, hLi, S⟩; exact ⟨S.get (show List.Perm _ ([(bt, _)] :: _) from (by repeat (first | exact pk1 | apply zAa))), S.get (show List.Perm _ ([(t, _)] :: _) from (by repeat (first | exact pk1 | apply zAa)))⟩
  · rintro i w ⟨Ci, Li, hCi, hLi, S⟩; exact S.stab.at (by repeat (first | exact mm1 | assumption | apply List.Mem.tail))
  · rintro i w hn ⟨Ci, Li, hCi, hLi, S⟩; rw [zKk hn]; exact ⟨Ci, Li, hCi, hLi, S⟩
  · rintro i x w hx ⟨Ci, Li, hCi, hLi, S⟩
    have hxd := flTo_has R ls (hds x (List.mem_of_getElem? hx)) i
    have hp : (flTo R ls i).1.pw.off = false := by rw [flTo_pw]; exact hoff
    obtain ⟨h5, h0⟩ := flE_on hp (dkOf (flTo R ls i).1 x.2).failed
    have hsc := zKk (R := R) hx
    refine ⟨rc, S.stab.one (List.Mem.head _), by rw [hL.pr]; rfl, ?_⟩
    refine round2 hL S E (by decide) (by decide) ?_; clear E; intro a E
    refine zCe rfl ?_
    refine zp E (zAg E rfl rfl) ?_; clear E a; intro a E
    refine wpList_nil ?_; refine zBq ?_
    refine zBe ?_; refine ⟨_, S, ?_⟩; clear S; intro w S
    refine zGa ?_
    refine zCz ?_; intro K hK
    refine zCe rfl ?_
    refine zp E (zAe E rfl rfl) ?_; clear E a; intro a E
    refine zAr E rfl rfl (by decide) rfl Tryz.func49 rfl (by kernel_rfl) rfl (lflush_in P _ Ci hCi ls Li hLi i x hx hxd _ (S.hp.sel (zAd (by repeat (first | exact pk1 | apply zAa)) (zAd (by repeat (first | exact pk1 | apply zAa)) (zAk _))))) ?_
    rintro v11 w ⟨rfl, Cj, Lj, hCj, hLj, hT⟩; clear E a; intro a E
    have S := S.call2 (zAd (by repeat (first | exact pk1 | apply zAa)) (zAd (by repeat (first | exact pk1 | apply zAa)) (zAk _))) hT
    refine wpList_nil ?_; refine zBq ?_
    refine zAh hK ?_; clear hK; clear K
    refine zGa ?_
    refine zCz ?_; intro K hK
    refine zCe rfl ?_
    refine zp E (by first | exact zCf E rfl rfl rfl | exact zAu E rfl rfl rfl rfl | exact zBc E rfl rfl rfl rfl | exact zAw E rfl rfl rfl) ?_; clear E a; intro a E
    refine zp E (zAg E rfl rfl) ?_; clear E a; intro a E
    refine wpList_nil ?_; refine zBq ?_
    refine zAh hK ?_; clear hK; clear K
    refine zDx E rfl ((by simpa using h5)) ?_
    refine zCz ?_; intro K hK
    refine zCe rfl ?_
    refine zp E (by first | exact zCf E rfl rfl rfl | exact zAu E rfl rfl rfl rfl | exact zBc E rfl rfl rfl rfl | exact zAw E rfl rfl rfl) ?_; clear E a; intro a E
    refine zp E (zAg E rfl rfl) ?_; clear E a; intro a E
    refine wpList_nil ?_; refine zBq ?_
    refine zAh hK ?_; clear hK; clear K
    refine if_boolR E rfl (fun hb => ?_) (fun hb => ?_)
    · replace hb := Nrm.nrm hb
      refine zCe rfl ?_
      refine zAo rfl (zBg E S rfl rfl rfl rfl rfl rfl (by repeat (first | exact pk1 | apply zAa)) (by first | exact Nat.le_of_ble_eq_true rfl | (simp; done) | (simp; omega)) ?_); clear E S a; intro a w E S; try dsimp only [List.set] at S
      refine wpList_nil ?_; refine zBq ?_
      iterate 2 (refine zBf ?_)
      refine ⟨_, S.front1 (A := [(lp, .loop (zHw rc))]) (by repeat (first | exact pk1 | apply zAa)), ?_⟩; clear S; intro w S; refine .inl ⟨rfl, ?_⟩
      refine ⟨Cj, Lj, by rw [hsc]; exact hCj, hLj, ?_⟩
      have : (flTo R ls (i + 1)).2 = 0 := by rw [hsc]; show (if _ then _ else _) = _; rw [if_neg (by rw [h0.1 (by simpa using hb)]; decide)]
      rw [this]
      exact S.only (zAd (by repeat (first | exact pk1 | apply zAa)) (zAd (by repeat (first | exact pk1 | apply zAa)) (zAd (by repeat (first | exact pk1 | apply zAa)) (zAd (by repeat (first | exact pk1 | apply zAa)) (zAd (by repeat (first | exact pk1 | apply zAa)) (zAd (by repeat (first | exact pk1 | apply zAa)) (zAd (by repeat (first | exact pk1 | apply zAa)) (zAd (by repeat (first | exact pk1 | apply zAa)) (zAd (by repeat (first | exact pk1 | apply zAa)) (zAk _))))))))))
    · replace hb := Nrm.nrm hb
      refine zFg ?_
      iterate 2 (refine zBf ?_)
      refine ⟨_, S.front1 (A := [(lp, .loop (zHw rc))]) (by repeat (first | exact pk1 | apply zAa)), ?_⟩; clear S; intro w S; refine .inl ⟨rfl, ?_⟩
      refine ⟨Cj, Lj, by rw [hsc]; exact hCj, hLj, ?_⟩
      have : (flTo R ls (i + 1)).2 = (flTo R ls i).2 := by rw [hsc]; show (if _ then _ else _) = _; rw [if_pos (by have := mt h0.2 (by simpa using hb); simpa using this)]
      rw [this]
      exact S.only (zAd (by repeat (first | exact pk1 | apply zAa)) (zAd (by repeat (first | exact pk1 | apply zAa)) (zAd (by repeat (first | exact pk1 | apply zAa)) (zAd (by repeat (first | exact pk1 | apply zAa)) (zAd (by repeat (first | exact pk1 | apply zAa)) (zAd (by repeat (first | exact pk1 | apply zAa)) (zAd (by repeat (first | exact pk1 | apply zAa)) (zAd (by repeat (first | exact pk1 | apply zAa)) (zAd (by repeat (first | exact pk1 | apply zAa)) (zAk _))))))))))
  · exact ⟨C, Lv, hC, hLv, S.only (zAd (by repeat (first | exact pk1 | apply zAa)) (zAd (by repeat (first | exact pk1 | apply zAa)) (zAd (by repeat (first | exact pk1 | apply zAa)) (zAd (by repeat (first | exact pk1 | apply zAa)) (zAd (by repeat (first | exact pk1 | apply zAa)) (zAd (by repeat (first | exact pk1 | apply zAa)) (zAd (by repeat (first | exact pk1 | apply zAa)) (zAd (by repeat (first | exact pk1 | apply zAa)) (zAd (by repeat (first | exact pk1 | apply zAa)) (zAk _))))))))))⟩
  · rintro en w ⟨v, rfl, hJ | hJ⟩
    · obtain ⟨Ci, Li, hCi, hLi, S⟩ := hJ
      refine ⟨v, rfl, .inl ⟨_, S, ?_⟩⟩; clear E S; intro w S a E
      refine zBf ?_
      refine zAh hK ?_; clear hK; clear K
      refine wp_seq_k ?_; intro K hK
      refine zAc ?_
      refine zp E (by first | exact zAn E rfl rfl rfl (S.get (by repeat (first | exact pk1 | apply zAa))) rfl | exact zAj E rfl rfl rfl (by assumption)) ?_; clear E a; intro a E
      refine zAo rfl (zBg E S rfl rfl rfl rfl rfl rfl (by repeat (first | exact pk1 | apply zAa)) (by first | exact Nat.le_of_ble_eq_true rfl | (simp; done) | (simp; omega)) ?_); clear E S a; intro a w E S; try dsimp only [List.set] at S
      refine wpList_nil ?_
      refine zAh hK ?_; clear hK; clear K
      refine wp_ret ?_
      refine retM1 E S (by repeat (first | exact pk1 | apply zAa)) rfl (fun w S => zFj rfl rfl (S.get (by repeat (first | exact pk1 | apply zAa))) rfl) ?_; clear S; intro w S
      exact ⟨_, rfl, rfl, Ci, Li, hCi, hLi, (S.only (Bs := [Ci, Li, [(t, _)], CL]) (zAd (by repeat (first | exact pk1 | apply zAa)) (zAd (by repeat (first | exact pk1 | apply zAa)) (zAd (by repeat (first | exact pk1 | apply zAa)) (zAd (by repeat (first | exact pk1 | apply zAa)) (zAk _)))))).tr⟩
    · exfalso; exact hJ
end Go.Proofs.YtidhehcjafoneaaGreatDoor
namespace Go.Sl
def w32 (z : Int) : Int := IntKind.u32.wrap z
def or32 (a b : Int) : Int := bits .or .u32 a b
def xo32 (a b : Int) : Int := bits .xor .u32 a b
def an32 (a b : Int) : Int := bits .and .u32 a b
def nt32 (a : Int) : Int := bits .xor .u32 4294967295 a
def shl32 (x k : Int) : Int := IntKind.u32.wrap (x * 2 ^ k.toNat)
def shrI (x k : Int) : Int := x / 2 ^ k.toNat
theorem or32_comm (a b : Int) : bits .or .u32 a b = bits .or .u32 b a := by
  show IntKind.u32.wrap (((BitVec.ofInt 32 a ||| BitVec.ofInt 32 b).toNat : Nat) : Int) = IntKind.u32.wrap (((BitVec.ofInt 32 b ||| BitVec.ofInt 32 a).toNat : Nat) : Int)
  rw [BitVec.or_comm]
def rot (x k : Int) : Int := or32 (shrI x k) (shl32 x (32 - k))
theorem w8_32 (b : UInt8) : IntKind.u32.wrap (b.toNat : Int) = (b.toNat : Int) := IntWalk.u32_in _ (by have := b.toNat_lt; omega)
def word32 (b : List UInt8) (t : Nat) : Int := or32 (or32 (or32 (shl32 (gb b (4 * t)).toNat 24) (shl32 (gb b (4 * t + 1)).toNat 16)) (shl32 (gb b (4 * t + 2)).toNat 8)) (gb b (4 * t + 3)).toNat
def sg (x : Int) (p q r : Int) : Int := xo32 (xo32 (rot x p) (rot x q)) (shrI x r)
def sG (x : Int) (p q r : Int) : Int := xo32 (xo32 (rot x p) (rot x q)) (rot x r)
def wnext (w : List Int) (t : Nat) : Int := w32 (w32 (w32 (w.getD (t - 16) 0 + sg (w.getD (t - 15) 0) 7 18 3) + w.getD (t - 7) 0) + sg (w.getD (t - 2) 0) 17 19 10)
def wsN (b : List UInt8) : Nat → List Int
  | 0 => []
  | n + 1 => wsN b n ++ [if n < 16 then word32 b n else wnext (wsN b n) n]
theorem zEk (b : List UInt8) : ∀ n, (wsN b n).length = n
  | 0 => rfl
  | n + 1 => by rw [wsN, List.length_append, zEk b n]; rfl
structure S8 where
  a : Int
  b : Int
  c : Int
  d : Int
  e : Int
  f : Int
  g : Int
  h : Int
def S8.t1 (s : S8) (k x : Int) : Int := w32 (w32 (w32 (w32 (s.h + sG s.e 6 11 25) + xo32 (an32 s.e s.f) (an32 (nt32 s.e) s.g)) + k) + x)
def S8.t2 (s : S8) : Int := w32 (sG s.a 2 13 22 + xo32 (xo32 (an32 s.a s.b) (an32 s.a s.c)) (an32 s.b s.c))
def S8.step (s : S8) (k x : Int) : S8 := ⟨w32 (s.t1 k x + s.t2), s.a, s.b, s.c, w32 (s.d + s.t1 k x), s.e, s.f, s.g⟩
def S8.mix (h : S8) (K ws : List Int) : Nat → S8
  | 0 => h
  | n + 1 => (S8.mix h K ws n).step (K.getD n 0) (ws.getD n 0)
def S8.add (h v : S8) : S8 := ⟨w32 (h.a + v.a), w32 (h.b + v.b), w32 (h.c + v.c), w32 (h.d + v.d), w32 (h.e + v.e), w32 (h.f + v.f), w32 (h.g + v.g), w32 (h.h + v.h)⟩
def S8.l (s : S8) : List Int := [s.a, s.b, s.c, s.d, s.e, s.f, s.g, s.h]
abbrev u32s (l : List Int) : List Value := l.map (Value.int .u32)
def shaK : List Int := [1116352408, 1899447441, 3049323471, 3921009573, 961987163, 1508970993, 2453635748, 2870763221, 3624381080, 310598401, 607225278, 1426881987, 1925078388, 2162078206, 2614888103, 3248222580, 3835390401, 4022224774, 264347078, 604807628, 770255983, 1249150122, 1555081692, 1996064986, 2554220882, 2821834349, 2952996808, 3210313671, 3336571891, 3584528711, 113926993, 338241895, 666307205, 773529912, 1294757372, 1396182291, 1695183700, 1986661051, 2177026350, 2456956037, 2730485921, 2820302411, 3259730800, 3345764771, 3516065817, 3600352804, 4094571909, 275423344, 430227734, 506948616, 659060556, 883997877, 958139571, 1322822218, 1537002063, 1747873779, 1955562222, 2024104815, 2227730452, 2361852424, 2428436474, 2756734187, 3204031479, 3329325298]
def sha0 : S8 := ⟨1779033703, 3144134277, 1013904242, 2773480762, 1359893119, 2600822924, 528734635, 1541459225⟩
def blk (all : List UInt8) (k : Nat) : List UInt8 := (all.drop (64 * k)).take 64
def shaStep (h : S8) (b : List UInt8) : S8 := h.add (h.mix shaK (wsN b 64) 64)
def shaH (all : List UInt8) : Nat → S8
  | 0 => sha0
  | k + 1 => shaStep (shaH all k) (blk all k)
def lenB (n : Nat) : Nat → List UInt8
  | 0 => []
  | k + 1 => lenB n k ++ [UInt8.ofNat (n / 2 ^ (56 - 8 * k))]
theorem zKl (n : Nat) : ∀ k, (lenB n k).length = k
  | 0 => rfl
  | k + 1 => by rw [lenB, List.length_append, zKl n k]; rfl
def padZ (n : Nat) : Nat := (119 - n % 64) % 64
def padL (b : List UInt8) : List UInt8 := b ++ [128] ++ List.replicate (padZ b.length) 0 ++ lenB (b.length * 8) 8
theorem zGp (b : List UInt8) : (padL b).length = b.length + 9 + padZ b.length := by
  simp only [padL, List.length_append, zKl, List.length_replicate, List.length_cons, List.length_nil]; omega
theorem padL_64 (b : List UInt8) : (padL b).length % 64 = 0 := by rw [zGp, padZ]; omega
def pairI (x y : Int) : Int := bits .or .u64 (IntKind.u64.wrap (IntKind.u64.wrap x * 2 ^ (32 : Int).toNat)) (IntKind.u64.wrap y)
theorem pairI_in (x y : Int) : 0 ≤ pairI x y ∧ pairI x y < 18446744073709551616 := by
  unfold pairI
  show 0 ≤ IntKind.u64.wrap _ ∧ IntKind.u64.wrap _ < _
  rw [IntKind.wrap_u64]; omega
def pairN (x y : Int) : Nat := (pairI x y).toNat
theorem pairN_eq (x y : Int) : ((pairN x y : Nat) : Int) = pairI x y := by have := pairI_in x y; unfold pairN; omega
def S8.fs (h : S8) : Fs := ⟨pairN h.a h.b, pairN h.c h.d, pairN h.e h.f, pairN h.g h.h⟩
def shaF (b : List UInt8) : Fs := (shaH (padL b) ((padL b).length / 64)).fs
end Go.Sl
namespace Go.Sl
theorem and31 {k : Int} (h : 1 ≤ k ∧ k ≤ 31) : bits .and .u64 (18446744073709551616 - k) 31 = 32 - k := by
  have key : ∀ n : Fin 32, 1 ≤ n.val → bits .and .u64 (18446744073709551616 - (n.val : Int)) 31 = 32 - (n.val : Int) := by decide +kernel
  obtain ⟨n, rfl⟩ : ∃ n : Nat, k = n := ⟨k.toNat, by omega⟩
  exact key ⟨n, by omega⟩ (by show 1 ≤ n; omega)
theorem ws_at (b : List UInt8) (n j : Nat) (r : List Value) (h : j < n) : (u32s (wsN b n) ++ r)[j]? = some (.int .u32 ((wsN b n).getD j 0)) := by
  have hl := zEk b n
  rw [List.getElem?_append_left (by rw [List.length_map]; omega), List.getElem?_map, List.getElem?_eq_getElem (by omega), List.getD, List.getElem?_eq_getElem (by omega)]; rfl
theorem ws_step (b : List UInt8) (n : Nat) : u32s (wsN b (n + 1)) = u32s (wsN b n) ++ [.int .u32 (if n < 16 then word32 b n else wnext (wsN b n) n)] := by rw [wsN, u32s, List.map_append]; rfl
theorem u32_at (l : List Int) {j : Nat} (h : j < l.length) : (u32s l)[j]? = some (.int .u32 (l.getD j 0)) := by
  rw [List.getElem?_map, List.getElem?_eq_getElem h, List.getD, List.getElem?_eq_getElem h]; rfl
theorem word_lit (b : List UInt8) {i : Nat} (h : 4 * i + 3 < b.length) : word32 b i = or32 (or32 (or32 (shl32 (b[4 * i]'(by omega)).toNat 24) (shl32 (b[4 * i + 1]'(by omega)).toNat 16)) (shl32 (b[4 * i + 2]'(by omega)).toNat 8)) (b[4 * i + 3]).toNat := by
  unfold word32; rw [zKs b (by omega), zKs b (by omega), zKs b (by omega), zKs b h]
def addL (h v : S8) (i : Nat) : List Int := (List.range 8).map fun j => if j < i then w32 (h.l.getD j 0 + v.l.getD j 0) else h.l.getD j 0
theorem zHl (h v : S8) (i : Nat) : (addL h v i).length = 8 := by simp [addL]
theorem addL_at (h v : S8) {i : Nat} (hi : i < 8) : (addL h v i).getD i 0 = h.l.getD i 0 := by
  have : i < (addL h v i).length := by rw [zHl]; exact hi
  rw [List.getD, List.getElem?_eq_getElem this]
  simp [addL]
theorem addL_set (h v : S8) {i : Nat} (hi : i < 8) : (u32s (addL h v i)).set i (.int .u32 (w32 (h.l.getD i 0 + v.l.getD i 0))) = u32s (addL h v (i + 1)) := by
  apply List.ext_getElem?
  intro j
  rw [List.getElem?_set, List.length_map, zHl]
  by_cases hj : i = j
  · subst hj; simp [addL, hi]
  · rw [if_neg hj]
    simp only [u32s, List.getElem?_map, addL]
    by_cases h8 : j < 8
    · rw [List.getElem?_range h8]
      simp only [Option.map_some]
      have : (j < i) ↔ (j < i + 1) := by omega
      simp only [this]
    · rw [List.getElem?_eq_none (l := List.range 8) (by simp; omega)]; rfl
theorem addL_zero (h v : S8) : addL h v 0 = h.l := rfl
theorem addL_end (h v : S8) : addL h v 8 = (h.add v).l := rfl
theorem Rd.cutc {C : zAs} {s m : Nat} {xs : List Value} {ad : Option Addr} {c lo hi : Nat} (h : Rd C s (.slice ad m c) m xs) (h1 : lo ≤ hi) (h2 : hi ≤ m) (h3 : hi ≤ c) :
    ∃ ad2, sliced ad lo hi c s = .slice ad2 (hi - lo) (c - lo) ∧ Rd C s (.slice ad2 (hi - lo) (c - lo)) (hi - lo) ((xs.drop (lo * s)).take ((hi - lo) * s)) :=
  ⟨_, rfl, h.piece rfl h1 h2 h3⟩
def Tab (As : List zAs) (g : Nat) (l : List Int) : Prop := ∃ G ∈ As, ∃ T fr, (g, Obj.cells (u32s l).toArray T fr) ∈ G
theorem Tab.tail {As : List zAs} {g : Nat} {l : List Int} {A : zAs} (h : Tab As g l) : Tab (A :: As) g l := by
  obtain ⟨G, hG, r⟩ := h; exact ⟨G, List.Mem.tail _ hG, r⟩
theorem Tab.cell {As : List zAs} {g : Nat} {l : List Int} {w : World} (h : Tab As g l) (S : Stab As w) {j : Nat} (hj : j < l.length) : w.cell? ⟨g, j, none⟩ = some (.int .u32 (l.getD j 0)) := by
  obtain ⟨G, hG, T, fr, hm⟩ := h
  exact zCt (S G hG _ hm) (u32_at l hj)
theorem shaK_len : shaK.length = 64 := rfl
theorem shs {n k : Nat} (hk : k ≤ 7) : ((n : Int) * 8) / 2 ^ (56 - 8 * (k : Int)).toNat = ((n * 8 / 2 ^ (56 - 8 * k) : Nat) : Int) := by
  rw [show (56 - 8 * (k : Int)).toNat = 56 - 8 * k by omega]; simp
end Go.Sl
namespace Go.Proofs.YtidhehcjafoneaaGreatDoor
open Go.Sl
set_option maxRecDepth 10000
theorem rotl_ret (x k : Int) (hk : 1 ≤ k ∧ k ≤ 31) (w0 : World) : Ret Tryz.prog 121 #[.int .u32 x, .int .i64 (-k)] w0 fun u w' => u = .int .u32 (rot x k) ∧ Trs w0 w' [] [] := by
  have S := St.begin (zEt w0)
  refine zCy 17 Tryz.func121 rfl rfl (by decide) ?_; intro a E
  refine wp_seq_k ?_; intro K hK
  refine zAc ?_
  refine zp E (zAg E rfl rfl) ?_; clear E a; intro a E
  refine wpList_nil ?_
  refine zAh hK ?_; clear hK; clear K
  refine wp_seq_k ?_; intro K hK
  refine zAc ?_
  refine zp E (zAe E rfl rfl) ?_; clear E a; intro a E
  refine zp E (zBv E rfl rfl rfl rfl (r := 18446744073709551616 - k) (by rw [IntKind.wrap_u64]; omega)) ?_; clear E a; intro a E
  refine zp E (zGu E rfl rfl rfl (and31 hk)) ?_; clear E a; intro a E
  refine zp E (zAg E rfl rfl) ?_; clear E a; intro a E
  refine wpList_nil ?_
  refine zAh hK ?_; clear hK; clear K
  refine wp_seq_k ?_; intro K hK
  refine zAc ?_
  iterate 2 (refine zp E (zAe E rfl rfl) ?_; clear E a; intro a E)
  refine zp E (zEz E rfl rfl rfl (by omega) (by simp only [IntKind.bits]; omega) rfl) ?_; clear E a; intro a E
  iterate 2 (refine zp E (zAe E rfl rfl) ?_; clear E a; intro a E)
  refine zp E (zDf E rfl rfl rfl (show IntKind.u64.wrap (32 - (32 - k)) = k by rw [IntKind.wrap_u64]; omega)) ?_; clear E a; intro a E
  refine zp E (zHy E rfl rfl rfl (by omega) (by simp only [IntKind.bits]; omega) rfl) ?_; clear E a; intro a E
  refine zp E (zGv E rfl rfl rfl (or32_comm _ _)) ?_; clear E a; intro a E
  refine zp E (zAg E rfl rfl) ?_; clear E a; intro a E
  refine wpList_nil ?_
  refine zAh hK ?_; clear hK; clear K
  refine wp_ret ?_
  refine ret1 E rfl rfl ?_
  exact ⟨_, rfl, rfl, (S.only (Bs := []) (zAk _)).tr⟩
theorem zHp (x k : Int) (hk : 1 ≤ k ∧ k ≤ 31) (w0 : World) : Ret Tryz.prog 120 #[.int .u32 x, .int .i64 k] w0 fun u w' => u = .int .u32 (rot x k) ∧ Trs w0 w' [] [] := by
  have S := St.begin (zEt w0)
  refine zCy 9 Tryz.func120 rfl rfl (by decide) ?_; intro a E
  refine wp_seq_k ?_; intro K hK
  refine zAc ?_
  refine zp E (zAg E rfl rfl) ?_; clear E a; intro a E
  refine wpList_nil ?_
  refine zAh hK ?_; clear hK; clear K
  refine wp_seq_k ?_; intro K hK
  refine zAc ?_
  iterate 2 (refine zp E (zAe E rfl rfl) ?_; clear E a; intro a E)
  refine zp E (rn_neg E rfl rfl (by first | exact wn_in (by omega) | exact rfl)) ?_; clear E a; intro a E
  refine zAr E rfl rfl (by decide) rfl Tryz.func121 rfl (by kernel_rfl) rfl (rotl_ret x k hk _) ?_
  rintro v8 w ⟨rfl, hT⟩; clear E a; intro a E
  have S := S.quiet hT
  refine zp E (zAg E rfl rfl) ?_; clear E a; intro a E
  refine wpList_nil ?_
  refine zAh hK ?_; clear hK; clear K
  refine wp_ret ?_
  refine ret1 E rfl rfl ?_
  exact ⟨_, rfl, rfl, (S.only (Bs := []) (zAk _)).tr⟩
theorem schedule_ret (b : List UInt8) (hl : b.length = 64) (w0 : World) : Ret Tryz.prog 118 #[.agg (byt b).toArray] w0 fun u w' => u = .agg (u32s (wsN b 64)).toArray ∧ Trs w0 w' [] [] := by
  have S := St.begin (zEt w0)
  have hbl := zBm b
  refine zDc 85 Tryz.func118 rfl rfl (by decide) ?_; intro a E
  refine wp_seq_k ?_; intro K hK
  refine zAc ?_
  refine zAo rfl (zCs E S rfl rfl (by decide) rfl rfl ?_); clear E S a; intro a w b1 E S
  refine zAo rfl (zCc E S rfl rfl (by decide) rfl rfl rfl ?_); clear E S a; intro a w b2 E S
  refine wpList_nil ?_
  refine zAh hK ?_; clear hK; clear K
  refine wp_seq_k ?_; intro K hK
  refine zAc ?_
  refine zAo rfl (zCc E S rfl rfl (by decide) rfl rfl rfl ?_); clear E S a; intro a w b3 E S
  refine wpList_nil ?_
  refine zAh hK ?_; clear hK; clear K
  iterate 2 (refine wp_seq_k ?_; intro K hK)
  refine zAc ?_
  refine zp E (zAe E rfl rfl) ?_; clear E a; intro a E
  refine wpList_nil ?_
  refine zAh hK ?_; clear hK; clear K
  refine wp_block ?_
  refine wp_loop_ghost (fun (m : Nat) (a : Act) (w' : World) => ∃ i, m = 16 - i ∧ i ≤ 16 ∧ St w0 [] w' [[(b3, cel (u32s (wsN b i) ++ List.replicate (64 - i) (.int .u32 0)) 154)], [(b2, cel (List.replicate 64 (.int .u32 0)) 154)], [(b1, cel (byt b) 199)]] ∧ Fr a 85 [(1, ptr b1), (2, ptr b2), (3, ptr b3), (8, .int .i64 i)]) (16 - 0) ?_ ?_
  · exact ⟨0, rfl, by omega, S, E.keep (zAb rfl (zAb rfl (zAb rfl (zAb rfl zAp))))⟩
  clear E; clear a; (try clear S); rintro m a w ⟨i, rfl, hi, S, E⟩
  refine wp_seq_k ?_; intro K hK
  refine zAc ?_
  refine zp E (zCb E rfl rfl rfl) ?_; clear E a; intro a E
  refine wpList_nil ?_
  refine zAh hK ?_; clear hK; clear K
  refine wp_seq_k ?_; intro K hK
  refine zBl E rfl (fun hb => ?_) (fun hb => ?_)
  · replace hb := Nrm.nrm hb
    refine wp_skip ?_
    refine zAh hK ?_; clear hK; clear K
    refine wp_seq_k ?_; intro K hK
    refine wp_block ?_
    refine wp_seq_k ?_; intro K hK
    refine zAc ?_
    refine zp E (zAe E rfl rfl) ?_; clear E a; intro a E
    refine zp E (zAg E rfl rfl) ?_; clear E a; intro a E
    refine wpList_nil ?_
    refine zAh hK ?_; clear hK; clear K
    have hwl := zEk b i
    have hst := ws_step b i
    rw [if_pos (by omega), word_lit b (by omega)] at hst
    refine zBo S (.ofL [(0, 0), (1, 0), (2, 0), (3, 0), (4, 0), (5, 0), (6, 0), (7, 0), (8, 0), (9, 0), (10, 0), (11, 0), (12, 0), (13, 0), (14, 0), (15, 0), (16, 0), (17, 0), (18, 0), (19, 0), (20, 0), (21, 0), (22, 0), (23, 0), (24, 0), (25, 0), (26, 0), (27, 0), (28, 0), (29, 0), (30, 0), (31, 3)]) (by kernel_rfl) (by kernel_rfl) ?_
    clear S; intro w S
    iterate 2 (refine zm E rfl (fun w h => zAe E rfl rfl) ?_; clear E a; intro a E)
    refine zm E rfl (fun w h => zEd E rfl rfl rfl (by first | exact zGx (x := 4) (by omega) | exact zFn (x := 4) (by omega) | exact w_in (by omega) | exact rfl)) ?_; clear E a; intro a E
    refine zm E rfl (fun w h => zCw (i := 4 * i) E rfl rfl rfl rfl rfl rfl (by omega)) ?_; clear E a; intro a E
    refine zm E rfl (fun w h => zAj E rfl rfl rfl (zCt (h.one (by repeat (first | exact mm1 | assumption | apply List.Mem.tail))) (zJu b (i := 4 * i) (by omega)))) ?_; clear E a; intro a E
    refine zm E rfl (fun w h => zBv E rfl rfl rfl rfl (w8_32 _)) ?_; clear E a; intro a E
    refine zm E rfl (fun w h => zEz E rfl rfl rfl (by omega) (by simp only [IntKind.bits]; omega) rfl) ?_; clear E a; intro a E
    refine zm E rfl (fun w h => zAe E rfl rfl) ?_; clear E a; intro a E
    refine zm E rfl (fun w h => zEd E rfl rfl rfl (by first | exact zGx (x := 4) (by omega) | exact zFn (x := 4) (by omega) | exact w_in (by omega) | exact rfl)) ?_; clear E a; intro a E
    refine zm E rfl (fun w h => zBu E rfl rfl rfl (by first | exact zCj (y := 1) (by omega) | exact w_in (by omega) | exact zBy (by omega) | exact rfl)) ?_; clear E a; intro a E
    refine zm E rfl (fun w h => zCw (i := 4 * i + 1) E rfl rfl rfl rfl rfl rfl (by omega)) ?_; clear E a; intro a E
    refine zm E rfl (fun w h => zAj E rfl rfl rfl (zCt (h.one (by repeat (first | exact mm1 | assumption | apply List.Mem.tail))) (zJu b (i := 4 * i + 1) (by omega)))) ?_; clear E a; intro a E
    refine zm E rfl (fun w h => zBv E rfl rfl rfl rfl (w8_32 _)) ?_; clear E a; intro a E
    refine zm E rfl (fun w h => zEz E rfl rfl rfl (by omega) (by simp only [IntKind.bits]; omega) rfl) ?_; clear E a; intro a E
    refine zm E rfl (fun w h => zGv E rfl rfl rfl rfl) ?_; clear E a; intro a E
    refine zm E rfl (fun w h => zAe E rfl rfl) ?_; clear E a; intro a E
    refine zm E rfl (fun w h => zEd E rfl rfl rfl (by first | exact zGx (x := 4) (by omega) | exact zFn (x := 4) (by omega) | exact w_in (by omega) | exact rfl)) ?_; clear E a; intro a E
    refine zm E rfl (fun w h => zBu E rfl rfl rfl (by first | exact zCj (y := 2) (by omega) | exact w_in (by omega) | exact zBy (by omega) | exact rfl)) ?_; clear E a; intro a E
    refine zm E rfl (fun w h => zCw (i := 4 * i + 2) E rfl rfl rfl rfl rfl rfl (by omega)) ?_; clear E a; intro a E
    refine zm E rfl (fun w h => zAj E rfl rfl rfl (zCt (h.one (by repeat (first | exact mm1 | assumption | apply List.Mem.tail))) (zJu b (i := 4 * i + 2) (by omega)))) ?_; clear E a; intro a E
    refine zm E rfl (fun w h => zBv E rfl rfl rfl rfl (w8_32 _)) ?_; clear E a; intro a E
    refine zm E rfl (fun w h => zEz E rfl rfl rfl (by omega) (by simp only [IntKind.bits]; omega) rfl) ?_; clear E a; intro a E
    refine zm E rfl (fun w h => zGv E rfl rfl rfl rfl) ?_; clear E a; intro a E
    refine zm E rfl (fun w h => zAe E rfl rfl) ?_; clear E a; intro a E
    refine zm E rfl (fun w h => zEd E rfl rfl rfl (by first | exact zGx (x := 4) (by omega) | exact zFn (x := 4) (by omega) | exact w_in (by omega) | exact rfl)) ?_; clear E a; intro a E
    refine zm E rfl (fun w h => zBu E rfl rfl rfl (by first | exact zCj (y := 3) (by omega) | exact w_in (by omega) | exact zBy (by omega) | exact rfl)) ?_; clear E a; intro a E
    refine zm E rfl (fun w h => zCw (i := 4 * i + 3) E rfl rfl rfl rfl rfl rfl (by omega)) ?_; clear E a; intro a E
    refine zm E rfl (fun w h => zAj E rfl rfl rfl (zCt (h.one (by repeat (first | exact mm1 | assumption | apply List.Mem.tail))) (zJu b (i := 4 * i + 3) (by omega)))) ?_; clear E a; intro a E
    refine zm E rfl (fun w h => zBv E rfl rfl rfl rfl (w8_32 _)) ?_; clear E a; intro a E
    refine zm E rfl (fun w h => zGv E rfl rfl rfl rfl) ?_; clear E a; intro a E
    refine zm E rfl (fun w h => zCw (i := i) E rfl rfl rfl rfl rfl rfl (by omega)) ?_; clear E a; intro a E
    refine zCq rfl rfl (zBg E S rfl rfl rfl rfl rfl rfl (by repeat (first | exact pk1 | apply zAa)) (by rw [List.length_append, List.length_map, List.length_replicate]; omega) ?_); clear E S a; intro a w E S; try dsimp only [List.set] at S
    rw [zHb (u32s (wsN b i)) 64 (.int .u32 0) _ i (by rw [List.length_map, hwl]) (by omega)] at S
    refine zBs ?_
    refine zBf ?_
    refine zAh hK ?_; clear hK; clear K
    refine zAc ?_
    refine zp E (zBu E rfl rfl rfl (by first | exact zCj (y := 1) (by omega) | exact w_in (by omega) | exact zBy (by omega) | exact rfl)) ?_; clear E a; intro a E
    refine zp E (zAe E rfl rfl) ?_; clear E a; intro a E
    refine wpList_nil ?_
    refine zBe ?_
    exact ⟨_, by omega, i + 1, rfl, by omega, by rw [hst]; exact S, E.keep (zAb rfl (zAb rfl (zAb rfl (zAb rfl zAp))))⟩
  · replace hb := Nrm.nrm hb
    refine wp_exit ?_
    refine zBb ?_; clear hK; clear K
    refine zBb ?_
    refine zCm ?_
    refine zAh hK ?_; clear hK; clear K
    iterate 2 (refine wp_seq_k ?_; intro K hK)
    refine zAc ?_
    refine zp E (zAg E rfl rfl) ?_; clear E a; intro a E
    refine wpList_nil ?_
    refine zAh hK ?_; clear hK; clear K
    refine wp_block ?_
    refine wp_loop_ghost (fun (m : Nat) (a : Act) (w' : World) => ∃ i, m = 64 - i ∧ 16 ≤ i ∧ i ≤ 64 ∧ St w0 [] w' [[(b3, cel (u32s (wsN b i) ++ List.replicate (64 - i) (.int .u32 0)) 154)], [(b2, cel (List.replicate 64 (.int .u32 0)) 154)], [(b1, cel (byt b) 199)]] ∧ Fr a 85 [(2, ptr b2), (3, ptr b3), (5, .int .i64 i)]) (64 - 16) ?_ ?_
    · exact ⟨16, rfl, by omega, by omega, by obtain rfl : i = 16 := (by omega); exact S, E.keep (zAb rfl (zAb rfl (zAb rfl zAp)))⟩
    clear E; clear a; (try clear S); rintro m a w ⟨i, rfl, h16, hi, S, E⟩
    iterate 2 (refine wp_seq_k ?_; intro K hK)
    refine zAc ?_
    refine zp E (zAe E rfl rfl) ?_; clear E a; intro a E
    refine zp E (zCb E rfl rfl rfl) ?_; clear E a; intro a E
    refine wpList_nil ?_
    refine zAh hK ?_; clear hK; clear K
    refine zBl E rfl (fun hb => ?_) (fun hb => ?_)
    · replace hb := Nrm.nrm hb
      refine wp_skip ?_
      refine zAh hK ?_; clear hK; clear K
      refine wp_seq_k ?_; intro K hK
      refine wp_block ?_
      refine wp_seq_k ?_; intro K hK
      have hwl := zEk b i
      have hst := ws_step b i
      rw [if_neg (by omega)] at hst
      refine zBo S (.ofL [(0, 0), (1, 0), (2, 0), (3, 0), (4, 0), (5, 0), (6, 0), (7, 0), (8, 0), (9, 0)]) (by kernel_rfl) (by kernel_rfl) ?_
      clear S; intro w S
      refine zm E rfl (fun w h => zAe E rfl rfl) ?_; clear E a; intro a E
      refine zm E rfl (fun w h => zDf E rfl rfl rfl (by first | exact zEx (y := 15) (by omega) (by omega) | exact w_in (by omega) | exact zBy (by omega) | exact rfl)) ?_; clear E a; intro a E
      refine zm E rfl (fun w h => zCw (i := i - 15) E rfl rfl rfl rfl rfl rfl (by omega)) ?_; clear E a; intro a E
      refine zm E rfl (fun w h => zAj E rfl rfl rfl (zCt (h.one (by repeat (first | exact mm1 | assumption | apply List.Mem.tail))) (ws_at b i (i - 15) _ (by omega)))) ?_; clear E a; intro a E
      refine zm E rfl (fun w h => zAe E rfl rfl) ?_; clear E a; intro a E
      refine zm E rfl (fun w h => zDf E rfl rfl rfl (by first | exact zEx (y := 2) (by omega) (by omega) | exact w_in (by omega) | exact zBy (by omega) | exact rfl)) ?_; clear E a; intro a E
      refine zm E rfl (fun w h => zCw (i := i - 2) E rfl rfl rfl rfl rfl rfl (by omega)) ?_; clear E a; intro a E
      refine zm E rfl (fun w h => zAj E rfl rfl rfl (zCt (h.one (by repeat (first | exact mm1 | assumption | apply List.Mem.tail))) (ws_at b i (i - 2) _ (by omega)))) ?_; clear E a; intro a E
      iterate 2 (refine zm E rfl (fun w h => zAg E rfl rfl) ?_; clear E a; intro a E)
      refine zBs ?_
      refine zAh hK ?_; clear hK; clear K
      refine zBo S (.ofL [(0, 0), (1, 0), (2, 0), (3, 0), (4, 0), (5, 0), (7, 0), (10, 0), (11, 0), (14, 0), (15, 0), (16, 0), (17, 0), (19, 0), (21, 0), (24, 0), (25, 0), (6, 1), (8, 1), (9, 0), (12, 0), (13, 0), (18, 0), (20, 1), (22, 1), (23, 0), (26, 0), (27, 0), (28, 0), (29, 3)]) (by kernel_rfl) (by kernel_rfl) ?_
      clear S; intro w S
      iterate 2 (refine zm E rfl (fun w h => zAe E rfl rfl) ?_; clear E a; intro a E)
      refine zm E rfl (fun w h => zDf E rfl rfl rfl (by first | exact zEx (y := 16) (by omega) (by omega) | exact w_in (by omega) | exact zBy (by omega) | exact rfl)) ?_; clear E a; intro a E
      refine zm E rfl (fun w h => zCw (i := i - 16) E rfl rfl rfl rfl rfl rfl (by omega)) ?_; clear E a; intro a E
      refine zm E rfl (fun w h => zAj E rfl rfl rfl (zCt (h.one (by repeat (first | exact mm1 | assumption | apply List.Mem.tail))) (ws_at b i (i - 16) _ (by omega)))) ?_; clear E a; intro a E
      iterate 3 (refine zm E rfl (fun w h => zAe E rfl rfl) ?_; clear E a; intro a E)
      refine zm E rfl (fun w h => zHy E rfl rfl rfl (by omega) (by simp only [IntKind.bits]; omega) rfl) ?_; clear E a; intro a E
      refine zm E rfl (fun w h => zAe E rfl rfl) ?_; clear E a; intro a E
      refine zm E rfl (fun w h => zDf E rfl rfl rfl (by first | exact zEx (y := 7) (by omega) (by omega) | exact w_in (by omega) | exact zBy (by omega) | exact rfl)) ?_; clear E a; intro a E
      refine zm E rfl (fun w h => zCw (i := i - 7) E rfl rfl rfl rfl rfl rfl (by omega)) ?_; clear E a; intro a E
      refine zm E rfl (fun w h => zAj E rfl rfl rfl (zCt (h.one (by repeat (first | exact mm1 | assumption | apply List.Mem.tail))) (ws_at b i (i - 7) _ (by omega)))) ?_; clear E a; intro a E
      iterate 3 (refine zm E rfl (fun w h => zAe E rfl rfl) ?_; clear E a; intro a E)
      refine zm E rfl (fun w h => zHy E rfl rfl rfl (by omega) (by simp only [IntKind.bits]; omega) rfl) ?_; clear E a; intro a E
      refine zCn E rfl rfl rfl (by decide) rfl Tryz.func120 rfl (by kernel_rfl) rfl (zHp _ 7 (by omega) _) ?_
      rintro v61 w ⟨rfl, hT⟩; clear E a; intro a E
      have S := S.quiet hT
      refine ⟨S.stab.sub (by first | (simp; done) | (simp +contextual; done) | (simp [*]; done)), ?_⟩
      refine zCn E rfl rfl rfl (by decide) rfl Tryz.func120 rfl (by kernel_rfl) rfl (zHp _ 18 (by omega) _) ?_
      rintro v63 w ⟨rfl, hT⟩; clear E a; intro a E
      have S := S.quiet hT
      refine ⟨S.stab.sub (by first | (simp; done) | (simp +contextual; done) | (simp [*]; done)), ?_⟩
      iterate 2 (refine zm E rfl (fun w h => zEv E rfl rfl rfl rfl) ?_; clear E a; intro a E)
      iterate 2 (refine zm E rfl (fun w h => zBu E rfl rfl rfl (by first | exact wa1 (by omega) | exact w_in (by omega) | exact zBy (by omega) | exact rfl)) ?_; clear E a; intro a E)
      refine zCn E rfl rfl rfl (by decide) rfl Tryz.func120 rfl (by kernel_rfl) rfl (zHp _ 17 (by omega) _) ?_
      rintro v75 w ⟨rfl, hT⟩; clear E a; intro a E
      have S := S.quiet hT
      refine ⟨S.stab.sub (by first | (simp; done) | (simp +contextual; done) | (simp [*]; done)), ?_⟩
      refine zCn E rfl rfl rfl (by decide) rfl Tryz.func120 rfl (by kernel_rfl) rfl (zHp _ 19 (by omega) _) ?_
      rintro v77 w ⟨rfl, hT⟩; clear E a; intro a E
      have S := S.quiet hT
      refine ⟨S.stab.sub (by first | (simp; done) | (simp +contextual; done) | (simp [*]; done)), ?_⟩
      iterate 2 (refine zm E rfl (fun w h => zEv E rfl rfl rfl rfl) ?_; clear E a; intro a E)
      refine zm E rfl (fun w h => zBu E rfl rfl rfl (by first | exact wa1 (by omega) | exact w_in (by omega) | exact zBy (by omega) | exact rfl)) ?_; clear E a; intro a E
      refine zm E rfl (fun w h => zCw (i := i) E rfl rfl rfl rfl rfl rfl (by omega)) ?_; clear E a; intro a E
      refine zCq rfl rfl (zBg E S rfl rfl rfl rfl rfl rfl (by repeat (first | exact pk1 | apply zAa)) (by rw [List.length_append, List.length_map, List.length_replicate]; omega) ?_); clear E S a; intro a w E S; try dsimp only [List.set] at S
      rw [zHb (u32s (wsN b i)) 64 (.int .u32 0) _ i (by rw [List.length_map, hwl]) (by omega)] at S
      refine zBs ?_
      refine zBf ?_
      refine zAh hK ?_; clear hK; clear K
      refine zAc ?_
      refine zp E (zAe E rfl rfl) ?_; clear E a; intro a E
      refine zp E (zBu E rfl rfl rfl (by first | exact zCj (y := 1) (by omega) | exact w_in (by omega) | exact zBy (by omega) | exact rfl)) ?_; clear E a; intro a E
      refine zp E (zAg E rfl rfl) ?_; clear E a; intro a E
      refine wpList_nil ?_
      refine zBe ?_
      exact ⟨_, by omega, i + 1, rfl, by omega, by omega, by rw [hst]; exact S, E.keep (zAb rfl (zAb rfl (zAb rfl zAp)))⟩
    · replace hb := Nrm.nrm hb
      refine wp_exit ?_
      refine zBb ?_; clear hK; clear K
      refine zBb ?_
      refine zCm ?_
      refine zAh hK ?_; clear hK; clear K
      refine wp_seq_k ?_; intro K hK
      obtain rfl : i = 64 := by omega
      have hwl := zEk b 64
      rw [Nat.sub_self, List.replicate_zero, List.append_nil] at S
      obtain ⟨ws, hws⟩ : ∃ ws, ws = wsN b 64 := ⟨_, rfl⟩
      rw [← hws] at S hwl ⊢
      have hul : (u32s ws).length = 64 := by rw [List.length_map, hwl]
      refine zAc ?_
      refine zp E (zEq E rfl rfl rfl (S.get (by repeat (first | exact pk1 | apply zAa))) hul) ?_; clear E a; intro a E
      refine zAo rfl (zEw E S rfl rfl rfl rfl (zIc ws) rfl hul (by repeat (first | exact pk1 | apply zAa)) (by rw [hul]; rfl) ?_); clear E S a; intro a w E S
      refine wpList_nil ?_
      refine zAh hK ?_; clear hK; clear K
      refine wp_ret ?_
      refine zKa E rfl rfl (S.get (by repeat (first | exact pk1 | apply zAa))) (by rw [hul]; rfl) ?_
      exact ⟨_, rfl, (by first | (rw [← hws]; done) | with_reducible rfl), (S.only (Bs := []) (zAk _)).tr⟩
end Go.Proofs.YtidhehcjafoneaaGreatDoor
namespace Go.Sl
theorem s8_at (s : S8) {i : Nat} (h : i < 8) : (u32s s.l)[i]? = some (.int .u32 (s.l.getD i 0)) := u32_at s.l h
theorem lenB_succ (n k : Nat) : lenB n (k + 1) = lenB n k ++ [UInt8.ofNat (n / 2 ^ (56 - 8 * k))] := rfl
theorem blk_length (all : List UInt8) {k : Nat} (h : 64 * k + 64 ≤ all.length) : (blk all k).length = 64 := by rw [blk, List.length_take, List.length_drop]; omega
theorem zKm {n : Nat} (h : n ≤ 140737488352000) : n + 1 + padZ n + 8 ≤ 140737488352100 := by unfold padZ; omega
end Go.Sl
namespace Go.Proofs.YtidhehcjafoneaaGreatDoor
open Go.Sl
set_option maxRecDepth 10000
theorem mixed_ret (s0 : S8) (ws : List Int) (hw : ws.length = 64) (As : List zAs) (hG : Tab As 2 shaK) (w0 : World) (H : Hp w0 As) :
    Ret Tryz.prog 117 #[.agg (u32s s0.l).toArray, .agg (u32s ws).toArray] w0 fun u w' => u = .agg (u32s (s0.add (s0.mix shaK ws 64)).l).toArray ∧ Trs w0 w' As As := by
  have S := St.begin H
  have hul : (u32s ws).length = 64 := by rw [List.length_map, hw]
  refine zCy 119 Tryz.func117 rfl rfl (by decide) ?_; intro a E
  refine wp_seq_k ?_; intro K hK
  refine zAc ?_
  refine zAo rfl (zCs E S rfl rfl (by decide) rfl rfl ?_); clear E S a; intro a w b2 E S
  refine zAo rfl (zCs E S rfl rfl (by decide) rfl rfl ?_); clear E S a; intro a w b3 E S
  refine zAo rfl (zCc E S rfl rfl (by decide) rfl rfl rfl ?_); clear E S a; intro a w b4 E S
  refine wpList_nil ?_
  refine zAh hK ?_; clear hK; clear K
  refine wp_seq_k ?_; intro K hK
  refine zBo S (.ofL [(0, 0), (1, 0), (2, 0), (3, 0), (4, 0), (5, 0), (6, 0), (7, 0), (8, 0), (9, 0), (10, 0), (11, 0), (12, 0), (13, 0), (14, 0), (15, 0), (16, 0), (17, 0), (18, 0), (19, 0), (20, 0), (21, 0), (22, 0), (23, 0)]) (by kernel_rfl) (by kernel_rfl) ?_
  clear S; intro w S
  refine zm E rfl (fun w h => zCw (i := 0) E rfl rfl rfl rfl rfl rfl (by omega)) ?_; clear E a; intro a E
  refine zm E rfl (fun w h => by first | exact zAn E rfl rfl rfl (h.one (by repeat (first | exact mm1 | assumption | apply List.Mem.tail))) rfl | exact zAj E rfl rfl rfl (by assumption)) ?_; clear E a; intro a E
  refine zm E rfl (fun w h => zCw (i := 1) E rfl rfl rfl rfl rfl rfl (by omega)) ?_; clear E a; intro a E
  refine zm E rfl (fun w h => by first | exact zAn E rfl rfl rfl (h.one (by repeat (first | exact mm1 | assumption | apply List.Mem.tail))) rfl | exact zAj E rfl rfl rfl (by assumption)) ?_; clear E a; intro a E
  refine zm E rfl (fun w h => zCw (i := 2) E rfl rfl rfl rfl rfl rfl (by omega)) ?_; clear E a; intro a E
  refine zm E rfl (fun w h => by first | exact zAn E rfl rfl rfl (h.one (by repeat (first | exact mm1 | assumption | apply List.Mem.tail))) rfl | exact zAj E rfl rfl rfl (by assumption)) ?_; clear E a; intro a E
  refine zm E rfl (fun w h => zCw (i := 3) E rfl rfl rfl rfl rfl rfl (by omega)) ?_; clear E a; intro a E
  refine zm E rfl (fun w h => by first | exact zAn E rfl rfl rfl (h.one (by repeat (first | exact mm1 | assumption | apply List.Mem.tail))) rfl | exact zAj E rfl rfl rfl (by assumption)) ?_; clear E a; intro a E
  refine zm E rfl (fun w h => zCw (i := 4) E rfl rfl rfl rfl rfl rfl (by omega)) ?_; clear E a; intro a E
  refine zm E rfl (fun w h => by first | exact zAn E rfl rfl rfl (h.one (by repeat (first | exact mm1 | assumption | apply List.Mem.tail))) rfl | exact zAj E rfl rfl rfl (by assumption)) ?_; clear E a; intro a E
  refine zm E rfl (fun w h => zCw (i := 5) E rfl rfl rfl rfl rfl rfl (by omega)) ?_; clear E a; intro a E
  refine zm E rfl (fun w h => by first | exact zAn E rfl rfl rfl (h.one (by repeat (first | exact mm1 | assumption | apply List.Mem.tail))) rfl | exact zAj E rfl rfl rfl (by assumption)) ?_; clear E a; intro a E
  refine zm E rfl (fun w h => zCw (i := 6) E rfl rfl rfl rfl rfl rfl (by omega)) ?_; clear E a; intro a E
  refine zm E rfl (fun w h => by first | exact zAn E rfl rfl rfl (h.one (by repeat (first | exact mm1 | assumption | apply List.Mem.tail))) rfl | exact zAj E rfl rfl rfl (by assumption)) ?_; clear E a; intro a E
  refine zm E rfl (fun w h => zCw (i := 7) E rfl rfl rfl rfl rfl rfl (by omega)) ?_; clear E a; intro a E
  refine zm E rfl (fun w h => by first | exact zAn E rfl rfl rfl (h.one (by repeat (first | exact mm1 | assumption | apply List.Mem.tail))) rfl | exact zAj E rfl rfl rfl (by assumption)) ?_; clear E a; intro a E
  iterate 8 (refine zm E rfl (fun w h => zAg E rfl rfl) ?_; clear E a; intro a E)
  refine zBs ?_
  refine zAh hK ?_; clear hK; clear K
  iterate 2 (refine wp_seq_k ?_; intro K hK)
  replace E := E.keep (e' := [(2, _), (3, _), (4, _), (5, _), (6, _), (7, _), (8, _), (9, _), (10, _), (11, _), (12, _)]) (zAb rfl (zAb rfl (zAb rfl (zAb rfl (zAb rfl (zAb rfl (zAb rfl (zAb rfl (zAb rfl (zAb rfl (zAb rfl (zAp))))))))))))
  refine zAc ?_
  refine zp E (zEq E rfl rfl rfl (S.get (by repeat (first | exact pk1 | apply zAa))) hul) ?_; clear E a; intro a E
  refine zp E (zAe E rfl rfl) ?_; clear E a; intro a E
  refine wpList_nil ?_
  refine zAh hK ?_; clear hK; clear K
  refine wp_block ?_
  refine wp_loop_ghost (fun (m : Nat) (a : Act) (w' : World) => ∃ (i : Nat) (s : S8), m = 64 - i ∧ i ≤ 64 ∧ s = S8.mix s0 shaK ws i ∧ St w0 As w' ([(b4, cel (List.replicate 8 (.int .u32 0)) 149)] :: [(b3, cel (u32s ws) 154)] :: [(b2, cel (u32s s0.l) 149)] :: As) ∧ Fr a 119 [(2, ptr b2), (4, ptr b4), (5, .int .u32 s.a), (6, .int .u32 s.b), (7, .int .u32 s.c), (8, .int .u32 s.d), (9, .int .u32 s.e), (10, .int .u32 s.f), (11, .int .u32 s.g), (12, .int .u32 s.h), (35, .agg (u32s ws).toArray), (36, .int .i64 i)]) (64 - 0) ?_ ?_
  · exact ⟨0, s0, rfl, by omega, rfl, S, E.keep (zAb rfl (zAb rfl (zAb rfl (zAb rfl (zAb rfl (zAb rfl (zAb rfl (zAb rfl (zAb rfl (zAb rfl (zAb rfl (zAb rfl zAp))))))))))))⟩
  clear E; clear a; (try clear S); rintro m a w ⟨i, s, rfl, hi, hs, S, E⟩
  refine wp_seq_k ?_; intro K hK
  refine zAc ?_
  refine zp E (zCb E rfl rfl rfl) ?_; clear E a; intro a E
  refine wpList_nil ?_
  refine zAh hK ?_; clear hK; clear K
  refine wp_seq_k ?_; intro K hK
  refine zBl E rfl (fun hb => ?_) (fun hb => ?_)
  · replace hb := Nrm.nrm hb
    refine wp_skip ?_
    refine zAh hK ?_; clear hK; clear K
    refine wp_seq_k ?_; intro K hK
    refine wp_block ?_
    refine wp_seq_k ?_; intro K hK
    refine zAc ?_
    refine zp E (zAe E rfl rfl) ?_; clear E a; intro a E
    refine zp E (zFw E rfl rfl rfl rfl rfl rfl rfl (by omega) (v := .int .u32 (ws.getD i 0)) (by rw [List.getElem?_toArray]; exact u32_at ws (by omega))) ?_; clear E a; intro a E
    iterate 2 (refine zp E (zAg E rfl rfl) ?_; clear E a; intro a E)
    refine wpList_nil ?_
    refine zAh hK ?_; clear hK; clear K
    refine wp_seq_k ?_; intro K hK
    refine zBo S (.ofL [(0, 0), (1, 0), (3, 0), (6, 0), (10, 0), (11, 0), (12, 0), (13, 0), (14, 0), (15, 0), (16, 0), (17, 0), (19, 0), (20, 0), (21, 0), (23, 0), (2, 1), (4, 1), (5, 0), (7, 1), (8, 0), (9, 0), (18, 0), (22, 0), (24, 0), (25, 0)]) (by kernel_rfl) (by kernel_rfl) ?_
    clear S; intro w S
    iterate 6 (refine zm E rfl (fun w h => zAe E rfl rfl) ?_; clear E a; intro a E)
    refine zm E rfl (fun w h => zGu E rfl rfl rfl rfl) ?_; clear E a; intro a E
    refine zm E rfl (fun w h => zAe E rfl rfl) ?_; clear E a; intro a E
    refine zm E rfl (fun w h => rn_com E rfl rfl rfl) ?_; clear E a; intro a E
    refine zm E rfl (fun w h => zAe E rfl rfl) ?_; clear E a; intro a E
    refine zm E rfl (fun w h => zGu E rfl rfl rfl rfl) ?_; clear E a; intro a E
    refine zm E rfl (fun w h => zEv E rfl rfl rfl rfl) ?_; clear E a; intro a E
    refine zm E rfl (fun w h => zAe E rfl rfl) ?_; clear E a; intro a E
    refine zm E rfl (fun w h => zCw (i := i) E rfl rfl rfl rfl rfl rfl (by omega)) ?_; clear E a; intro a E
    refine zm E rfl (fun w h => zAj E rfl rfl rfl (hG.tail.tail.tail.cell h (j := i) (by rw [shaK_len]; omega))) ?_; clear E a; intro a E
    refine zm E rfl (fun w h => zAe E rfl rfl) ?_; clear E a; intro a E
    refine zCn E rfl rfl rfl (by decide) rfl Tryz.func120 rfl (by kernel_rfl) rfl (zHp s.e 6 (by omega) _) ?_
    rintro v42 w ⟨rfl, hT⟩; clear E a; intro a E
    have S := S.quiet hT
    refine ⟨S.stab.sub (by first | (simp; done) | (simp +contextual; done) | (simp [*]; done)), ?_⟩
    refine zCn E rfl rfl rfl (by decide) rfl Tryz.func120 rfl (by kernel_rfl) rfl (zHp s.e 11 (by omega) _) ?_
    rintro v44 w ⟨rfl, hT⟩; clear E a; intro a E
    have S := S.quiet hT
    refine ⟨S.stab.sub (by first | (simp; done) | (simp +contextual; done) | (simp [*]; done)), ?_⟩
    refine zm E rfl (fun w h => zEv E rfl rfl rfl rfl) ?_; clear E a; intro a E
    refine zCn E rfl rfl rfl (by decide) rfl Tryz.func120 rfl (by kernel_rfl) rfl (zHp s.e 25 (by omega) _) ?_
    rintro v47 w ⟨rfl, hT⟩; clear E a; intro a E
    have S := S.quiet hT
    refine ⟨S.stab.sub (by first | (simp; done) | (simp +contextual; done) | (simp [*]; done)), ?_⟩
    refine zm E rfl (fun w h => zEv E rfl rfl rfl rfl) ?_; clear E a; intro a E
    iterate 4 (refine zm E rfl (fun w h => zBu E rfl rfl rfl (by first | exact wa1 (by omega) | exact w_in (by omega) | exact zBy (by omega) | exact rfl)) ?_; clear E a; intro a E)
    refine zm E rfl (fun w h => zAg E rfl rfl) ?_; clear E a; intro a E
    refine zBs ?_
    refine zAh hK ?_; clear hK; clear K
    refine wp_seq_k ?_; intro K hK
    refine zAc ?_
    refine zp E (zAe E rfl rfl) ?_; clear E a; intro a E
    refine zAr E rfl rfl (by decide) rfl Tryz.func120 rfl (by kernel_rfl) rfl (zHp s.a 2 (by omega) _) ?_
    rintro v66 w ⟨rfl, hT⟩; clear E a; intro a E
    have S := S.quiet hT
    refine zp E (zAe E rfl rfl) ?_; clear E a; intro a E
    refine zAr E rfl rfl (by decide) rfl Tryz.func120 rfl (by kernel_rfl) rfl (zHp s.a 13 (by omega) _) ?_
    rintro v68 w ⟨rfl, hT⟩; clear E a; intro a E
    have S := S.quiet hT
    refine zp E (zEv E rfl rfl rfl rfl) ?_; clear E a; intro a E
    refine zp E (zAe E rfl rfl) ?_; clear E a; intro a E
    refine zAr E rfl rfl (by decide) rfl Tryz.func120 rfl (by kernel_rfl) rfl (zHp s.a 22 (by omega) _) ?_
    rintro v71 w ⟨rfl, hT⟩; clear E a; intro a E
    have S := S.quiet hT
    refine zp E (zEv E rfl rfl rfl rfl) ?_; clear E a; intro a E
    iterate 2 (refine zp E (zAe E rfl rfl) ?_; clear E a; intro a E)
    refine zp E (zGu E rfl rfl rfl rfl) ?_; clear E a; intro a E
    iterate 2 (refine zp E (zAe E rfl rfl) ?_; clear E a; intro a E)
    refine zp E (zGu E rfl rfl rfl rfl) ?_; clear E a; intro a E
    refine zp E (zEv E rfl rfl rfl rfl) ?_; clear E a; intro a E
    iterate 2 (refine zp E (zAe E rfl rfl) ?_; clear E a; intro a E)
    refine zp E (zGu E rfl rfl rfl rfl) ?_; clear E a; intro a E
    refine zp E (zEv E rfl rfl rfl rfl) ?_; clear E a; intro a E
    refine zp E (zBu E rfl rfl rfl (by first | exact wa1 (by omega) | exact w_in (by omega) | exact zBy (by omega) | exact rfl)) ?_; clear E a; intro a E
    refine zp E (zAg E rfl rfl) ?_; clear E a; intro a E
    refine wpList_nil ?_
    refine zAh hK ?_; clear hK; clear K
    refine zAc ?_
    iterate 5 (refine zp E (zAe E rfl rfl) ?_; clear E a; intro a E)
    refine zp E (zBu E rfl rfl rfl (by first | exact wa1 (by omega) | exact w_in (by omega) | exact zBy (by omega) | exact rfl)) ?_; clear E a; intro a E
    iterate 5 (refine zp E (zAe E rfl rfl) ?_; clear E a; intro a E)
    refine zp E (zBu E rfl rfl rfl (by first | exact wa1 (by omega) | exact w_in (by omega) | exact zBy (by omega) | exact rfl)) ?_; clear E a; intro a E
    iterate 8 (refine zp E (zAg E rfl rfl) ?_; clear E a; intro a E)
    refine wpList_nil ?_
    refine zBf ?_
    refine zAh hK ?_; clear hK; clear K
    replace E := E.keep (e' := [(2, _), (4, _), (5, _), (6, _), (7, _), (8, _), (9, _), (10, _), (11, _), (12, _), (13, _), (14, _), (15, _), (16, _), (35, _), (36, _), (37, _), (38, _), (39, _), (40, _), (41, _), (42, _), (43, _), (44, _), (45, _), (46, _), (47, _), (48, _), (49, _), (50, _), (51, _), (52, _), (53, _), (54, _), (55, _), (56, _), (57, _), (58, _), (59, _), (60, _), (61, _), (62, _), (63, _), (64, _), (65, _), (66, _), (67, _), (68, _), (69, _), (70, _), (71, _), (72, _), (73, _), (74, _), (75, _), (76, _), (77, _), (78, _), (79, _), (80, _), (81, _), (82, _), (83, _), (84, _), (85, _), (86, _), (87, _), (88, _), (89, _), (90, _), (91, _), (92, _), (93, _), (94, _), (95, _), (96, _)]) (zAb rfl (zAb rfl (zAb rfl (zAb rfl (zAb rfl (zAb rfl (zAb rfl (zAb rfl (zAb rfl (zAb rfl (zAb rfl (zAb rfl (zAb rfl (zAb rfl (zAb rfl (zAb rfl (zAb rfl (zAb rfl (zAb rfl (zAb rfl (zAb rfl (zAb rfl (zAb rfl (zAb rfl (zAb rfl (zAb rfl (zAb rfl (zAb rfl (zAb rfl (zAb rfl (zAb rfl (zAb rfl (zAb rfl (zAb rfl (zAb rfl (zAb rfl (zAb rfl (zAb rfl (zAb rfl (zAb rfl (zAb rfl (zAb rfl (zAb rfl (zAb rfl (zAb rfl (zAb rfl (zAb rfl (zAb rfl (zAb rfl (zAb rfl (zAb rfl (zAb rfl (zAb rfl (zAb rfl (zAb rfl (zAb rfl (zAb rfl (zAb rfl (zAb rfl (zAb rfl (zAb rfl (zAb rfl (zAb rfl (zAb rfl (zAb rfl (zAb rfl (zAb rfl (zAb rfl (zAb rfl (zAb rfl (zAb rfl (zAb rfl (zAb rfl (zAb rfl (zAb rfl (zAb rfl (zAp)))))))))))))))))))))))))))))))))))))))))))))))))))))))))))))))))))))))))))))
    refine zAc ?_
    refine zp E (zBu E rfl rfl rfl (by first | exact zCj (y := 1) (by omega) | exact w_in (by omega) | exact zBy (by omega) | exact rfl)) ?_; clear E a; intro a E
    refine zp E (zAe E rfl rfl) ?_; clear E a; intro a E
    refine wpList_nil ?_
    refine zBe ?_
    exact ⟨_, by omega, i + 1, s.step (shaK.getD i 0) (ws.getD i 0), rfl, by omega, by rw [hs]; rfl, S, E.keep (zAb rfl (zAb rfl (zAb rfl (zAb rfl (zAb rfl (zAb rfl (zAb rfl (zAb rfl (zAb rfl (zAb rfl (zAb rfl (zAb rfl zAp))))))))))))⟩
  · replace hb := Nrm.nrm hb
    refine wp_exit ?_
    refine zBb ?_; clear hK; clear K
    refine zBb ?_
    refine zCm ?_
    refine zAh hK ?_; clear hK; clear K
    iterate 2 (refine wp_seq_k ?_; intro K hK)
    obtain rfl : i = 64 := by omega
    refine zAc ?_
    iterate 8 (refine zp E (zAe E rfl rfl) ?_; clear E a; intro a E)
    refine zp E (zCo (cells := [_, _, _, _, _, _, _, _]) E rfl rfl rfl) ?_; clear E a; intro a E
    refine zp E (zAe E rfl rfl) ?_; clear E a; intro a E
    refine wpList_nil ?_
    refine zAh hK ?_; clear hK; clear K
    refine wp_block ?_
    refine wp_loop_ghost (fun (m : Nat) (a : Act) (w' : World) => ∃ i, m = 8 - i ∧ i ≤ 8 ∧ St w0 As w' ([(b2, cel (u32s (addL s0 s i)) 149)] :: [(b4, cel (List.replicate 8 (.int .u32 0)) 149)] :: [(b3, cel (u32s ws) 154)] :: As) ∧ Fr a 119 [(2, ptr b2), (4, ptr b4), (106, .agg (u32s s.l).toArray), (107, .int .i64 i)]) (8 - 0) ?_ ?_
    · exact ⟨0, rfl, by omega, by rw [addL_zero]; exact S.front3 (by repeat (first | exact pk1 | apply zAa)) (B := [(b4, _)]) (by repeat (first | exact pk1 | apply zAa)) (C := [(b3, _)]) (by repeat (first | exact pk1 | apply zAa)), E.keep (zAb rfl (zAb rfl (zAb rfl (zAb rfl zAp))))⟩
    clear E; clear a; (try clear S); rintro m a w ⟨i, rfl, hi, S, E⟩
    refine wp_seq_k ?_; intro K hK
    refine zAc ?_
    refine zp E (zCb E rfl rfl rfl) ?_; clear E a; intro a E
    refine wpList_nil ?_
    refine zAh hK ?_; clear hK; clear K
    refine wp_seq_k ?_; intro K hK
    refine zBl E rfl (fun hb => ?_) (fun hb => ?_)
    · replace hb := Nrm.nrm hb
      refine wp_skip ?_
      refine zAh hK ?_; clear hK; clear K
      refine wp_seq_k ?_; intro K hK
      refine wp_block ?_
      refine wp_seq_k ?_; intro K hK
      refine zAc ?_
      refine zp E (zAe E rfl rfl) ?_; clear E a; intro a E
      refine zp E (zFw E rfl rfl rfl rfl rfl rfl rfl (by omega) (v := .int .u32 (s.l.getD i 0)) (by rw [List.getElem?_toArray]; exact s8_at s (by omega))) ?_; clear E a; intro a E
      iterate 2 (refine zp E (zAg E rfl rfl) ?_; clear E a; intro a E)
      refine wpList_nil ?_
      refine zAh hK ?_; clear hK; clear K
      refine zAc ?_
      refine zp E (zAe E rfl rfl) ?_; clear E a; intro a E
      refine zp E (zCw (i := i) E rfl rfl rfl rfl rfl rfl (by omega)) ?_; clear E a; intro a E
      refine zp E (zAj E rfl rfl rfl (zCt (S.get (by repeat (first | exact pk1 | apply zAa))) (v := .int .u32 (s0.l.getD i 0)) (by rw [u32_at _ (by rw [zHl]; omega), addL_at s0 s (by omega)]))) ?_; clear E a; intro a E
      refine zp E (zAe E rfl rfl) ?_; clear E a; intro a E
      refine zp E (zBu E rfl rfl rfl (by first | exact wa1 (by omega) | exact w_in (by omega) | exact zBy (by omega) | exact rfl)) ?_; clear E a; intro a E
      refine zp E (zCw (i := i) E rfl rfl rfl rfl rfl rfl (by omega)) ?_; clear E a; intro a E
      refine zAo rfl (zBg E S rfl rfl rfl rfl rfl rfl (by repeat (first | exact pk1 | apply zAa)) (by rw [List.length_map, zHl]; omega) ?_); clear E S a; intro a w E S; try dsimp only [List.set] at S
      refine wpList_nil ?_
      refine zBf ?_
      refine zAh hK ?_; clear hK; clear K
      refine zAc ?_
      refine zp E (zBu E rfl rfl rfl (by first | exact zCj (y := 1) (by omega) | exact w_in (by omega) | exact zBy (by omega) | exact rfl)) ?_; clear E a; intro a E
      refine zp E (zAe E rfl rfl) ?_; clear E a; intro a E
      refine wpList_nil ?_
      refine zBe ?_
      exact ⟨_, by omega, i + 1, rfl, by omega, by rw [← addL_set s0 s (by omega)]; exact S, E.keep (zAb rfl (zAb rfl (zAb rfl (zAb rfl zAp))))⟩
    · replace hb := Nrm.nrm hb
      refine wp_exit ?_
      refine zBb ?_; clear hK; clear K
      refine zBb ?_
      refine zCm ?_
      refine zAh hK ?_; clear hK; clear K
      refine wp_seq_k ?_; intro K hK
      obtain rfl : i = 8 := by omega
      rw [addL_end, hs] at S
      refine zAc ?_
      refine zp E (zEq E rfl rfl rfl (S.get (by repeat (first | exact pk1 | apply zAa))) rfl) ?_; clear E a; intro a E
      refine zAo rfl (zEw E S rfl rfl rfl rfl (zIc _) rfl rfl (by repeat (first | exact pk1 | apply zAa)) (by rfl) ?_); clear E S a; intro a w E S
      refine wpList_nil ?_
      refine zAh hK ?_; clear hK; clear K
      refine wp_ret ?_
      refine zKa E rfl rfl (S.get (by repeat (first | exact pk1 | apply zAa))) rfl ?_
      exact ⟨_, rfl, rfl, S.tail3.tr⟩
theorem zJm (s : S8) (b3 : Nat) (i : Nat) (hi : i + 1 < 8) (w0 : World) (H : Hp w0 [[(b3, cel (u32s s.l) 149)]]) :
    Ret Tryz.prog 119 #[.int .i64 i, ptr b3] w0 fun u w' => u = .int .u64 (pairN (s.l.getD i 0) (s.l.getD (i + 1) 0)) ∧ Trs w0 w' [[(b3, cel (u32s s.l) 149)]] [[(b3, cel (u32s s.l) 149)]] := by
  have S := St.begin H
  refine zCy 15 Tryz.func119 rfl rfl (by decide) ?_; intro a E
  refine wp_seq_k ?_; intro K hK
  refine zAc ?_
  refine zp E (zAg E rfl rfl) ?_; clear E a; intro a E
  refine wpList_nil ?_
  refine zAh hK ?_; clear hK; clear K
  refine wp_seq_k ?_; intro K hK
  refine zBo S (.ofL [(0, 0), (1, 0), (2, 0), (3, 0), (4, 0), (5, 0), (6, 0), (7, 0), (8, 0), (9, 0), (10, 0), (11, 0)]) (by kernel_rfl) (by kernel_rfl) ?_
  clear S; intro w S
  refine zm E rfl (fun w h => zAe E rfl rfl) ?_; clear E a; intro a E
  refine zm E rfl (fun w h => zCw (i := i) E rfl rfl rfl rfl rfl rfl (by omega)) ?_; clear E a; intro a E
  refine zm E rfl (fun w h => zAj E rfl rfl rfl (zCt (h.one (by repeat (first | exact mm1 | assumption | apply List.Mem.tail))) (s8_at s (i := i) (by omega)))) ?_; clear E a; intro a E
  refine zm E rfl (fun w h => zBv E rfl rfl rfl rfl rfl) ?_; clear E a; intro a E
  refine zm E rfl (fun w h => zEz E rfl rfl rfl (by omega) (by simp only [IntKind.bits]; omega) rfl) ?_; clear E a; intro a E
  refine zm E rfl (fun w h => zAe E rfl rfl) ?_; clear E a; intro a E
  refine zm E rfl (fun w h => zBu E rfl rfl rfl (by first | exact zCj (y := 1) (by omega) | exact w_in (by omega) | exact zBy (by omega) | exact rfl)) ?_; clear E a; intro a E
  refine zm E rfl (fun w h => zCw (i := i + 1) E rfl rfl rfl rfl rfl rfl (by omega)) ?_; clear E a; intro a E
  refine zm E rfl (fun w h => zAj E rfl rfl rfl (zCt (h.one (by repeat (first | exact mm1 | assumption | apply List.Mem.tail))) (s8_at s (i := i + 1) (by omega)))) ?_; clear E a; intro a E
  refine zm E rfl (fun w h => zBv E rfl rfl rfl rfl rfl) ?_; clear E a; intro a E
  refine zm E rfl (fun w h => zGv E rfl rfl rfl rfl) ?_; clear E a; intro a E
  refine zm E rfl (fun w h => zAg E rfl rfl) ?_; clear E a; intro a E
  refine zBs ?_
  refine zAh hK ?_; clear hK; clear K
  refine wp_ret ?_
  refine ret1 E rfl rfl ?_
  exact ⟨_, rfl, by rw [pairN_eq]; rfl, S.tr⟩
end Go.Proofs.YtidhehcjafoneaaGreatDoor
