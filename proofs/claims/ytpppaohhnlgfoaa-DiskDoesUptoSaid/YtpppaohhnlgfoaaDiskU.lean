/-
  Disks: the power comes back.
-/
import Derived.Test.YtpppaohhnlgfoaaDiskS
namespace Go.Sl
/-- A disk: where its blocks lie, what is on it, what is seen, whether it failed. -/
structure Dk where
  d : Nat
  gp : Nat
  gn : Nat
  pl : List UInt8
  now : List UInt8
  failed : Bool
def Dk.settle (x : Dk) : Dk := { x with now := x.pl }
def putD (w : Wt) (ds : List Dk) : List Dk := ds.map fun x => if x.d = w.d then { x with pl := setS x.pl w.at_ w.b } else x
/-- Of the writes that wait those stay that are told so. -/
def upW : List Wt → List Bool → List Dk → List Dk
  | [], _, ds => ds
  | w :: ws, st, ds => upW ws st.tail (if st.head? = some true then putD w ds else ds)
/-- What does not change. -/
def Dk.key (x : Dk) : Nat × Nat × Nat × Bool × Nat × List UInt8 := (x.d, x.gp, x.gn, x.failed, x.pl.length, x.now)
theorem putD_one {w : Wt} {A B : List Dk} {x : Dk} (hx : x.d = w.d) (hnd : ((A ++ x :: B).map Dk.d).Nodup) : putD w (A ++ x :: B) = A ++ { x with pl := setS x.pl w.at_ w.b } :: B := by
  have h : ∀ l : List Dk, (∀ y ∈ l, y.d ≠ x.d) → l.map (fun x => if x.d = w.d then ({ x with pl := setS x.pl w.at_ w.b } : Dk) else x) = l := fun l hl => by
    conv => rhs; rw [← List.map_id l]
    exact List.map_congr_left fun y hy => by rw [if_neg (fun q => hl y hy (by rw [q, hx]))]; rfl
  rw [List.map_append, List.map_cons, List.nodup_append] at hnd
  obtain ⟨h1, h2, h3⟩ := hnd
  rw [List.nodup_cons] at h2
  rw [putD, List.map_append, List.map_cons, if_pos hx, h A (fun y hy q => h3 y.d (List.mem_map_of_mem hy) x.d (List.mem_cons_self ..) q), h B (fun y hy q => h2.1 (by rw [← q]; exact List.mem_map_of_mem hy))]
theorem putD_key {w : Wt} {ds : List Dk} (h : ∀ x ∈ ds, x.d = w.d → 128 * w.at_ + 128 ≤ x.pl.length) : (putD w ds).map Dk.key = ds.map Dk.key := by
  rw [putD, List.map_map]
  refine List.map_congr_left fun x hx => ?_
  simp only [Function.comp]
  by_cases hd : x.d = w.d
  · rw [if_pos hd]; simp only [Dk.key, setS_length (h x hx hd) w.hb]
  · rw [if_neg hd]
end Go.Sl
namespace Go.Proofs.Ytpppaohhnlgfoaa
open Go.Sl
set_option maxRecDepth 10000
/-- A disk's blocks. -/
abbrev ch1 (p : Nat) (x : Dk) : Chunk := [(x.d, dcl p x.gp x.gn x.pl.length x.failed)]
abbrev ch2 (x : Dk) : Chunk := [(x.gp, cel (byt x.pl) 5)]
abbrev ch3 (x : Dk) : Chunk := [(x.gn, cel (byt x.now) 5)]
def chs (p : Nat) (ds : List Dk) : List Chunk := ds.flatMap fun x => [ch1 p x, ch2 x, ch3 x]
theorem chs_open (p : Nat) (X Y Z : Chunk) (A B : List Dk) (x : Dk) (As : List Chunk) : (X :: Y :: Z :: (chs p (A ++ x :: B) ++ As)).Perm (ch1 p x :: ch2 x :: ch3 x :: X :: Y :: Z :: (chs p (A ++ B) ++ As)) := by
  have e1 : chs p (A ++ x :: B) ++ As = chs p A ++ (ch1 p x :: ch2 x :: ch3 x :: (chs p B ++ As)) := by simp [chs]
  have e2 : chs p (A ++ B) ++ As = chs p A ++ (chs p B ++ As) := by simp [chs]
  rw [e1, e2]
  have h : ∀ (l : List Chunk) (a : Chunk) (r : List Chunk), (X :: Y :: Z :: (l ++ a :: r)).Perm (a :: X :: Y :: Z :: (l ++ r)) := fun l a r =>
    (List.perm_middle (l₁ := X :: Y :: Z :: l) (a := a) (l₂ := r))
  refine (h _ _ _).trans ((h _ _ _).cons _ |>.trans ?_)
  exact ((h _ _ _).cons _).cons _

/-- Sound disks. -/
def DkOk (ds : List Dk) : Prop := (ds.map Dk.d).Nodup ∧ ∀ x ∈ ds, x.now.length = x.pl.length ∧ x.pl.length ≤ 1048576
def WtOk (ws : List Wt) (ds : List Dk) : Prop := ∀ w ∈ ws, (∃ x ∈ ds, x.d = w.d) ∧ ∀ x ∈ ds, x.d = w.d → 128 * w.at_ + 128 ≤ x.pl.length
theorem key_d {ds es : List Dk} (h : es.map Dk.key = ds.map Dk.key) : es.map Dk.d = ds.map Dk.d := by
  have := congrArg (List.map Prod.fst) h
  simpa [List.map_map, Function.comp_def, Dk.key] using this
theorem key_mem {ds es : List Dk} (h : es.map Dk.key = ds.map Dk.key) {x : Dk} (hx : x ∈ es) : ∃ y ∈ ds, y.key = x.key := by
  have := List.mem_map_of_mem (f := Dk.key) hx
  rw [h] at this
  obtain ⟨y, h1, h2⟩ := List.mem_map.1 this
  exact ⟨y, h1, h2⟩
theorem key_ok {ds es : List Dk} (h : es.map Dk.key = ds.map Dk.key) (hd : DkOk ds) : DkOk es := by
  refine ⟨by rw [key_d h]; exact hd.1, fun x hx => ?_⟩
  obtain ⟨y, h1, h2⟩ := key_mem h hx
  have := hd.2 y h1
  simp only [Dk.key, Prod.mk.injEq] at h2
  obtain ⟨_, _, _, _, h5, h6⟩ := h2
  rw [← h5, ← h6]; exact this
theorem key_wt {ds es : List Dk} {ws : List Wt} (h : es.map Dk.key = ds.map Dk.key) (hd : WtOk ws ds) : WtOk ws es := fun w hw => by
  obtain ⟨⟨x, h1, h2⟩, h3⟩ := hd w hw
  refine ⟨?_, fun y hy hyd => ?_⟩
  · obtain ⟨y, h4, h5⟩ := key_mem h.symm h1
    simp only [Dk.key, Prod.mk.injEq] at h5
    exact ⟨y, h4, by rw [h5.1, h2]⟩
  · obtain ⟨z, h4, h5⟩ := key_mem h hy
    simp only [Dk.key, Prod.mk.injEq] at h5
    rw [← h5.2.2.2.2.1]
    exact h3 z h4 (by rw [h5.1, hyd])

theorem up_ret (p : Nat) (s : Pw) (vw vd : Value) (ws : List Wt) (Cw : Chunk) (hCw : Buf Cw 65 130 vw ws.length (wl ws)) (ds : List Dk) (Cd : Chunk) (hCd : Buf Cd 27 1 vd ds.length (ds.map fun x => ptr x.d)) (hds : DkOk ds) (hws : WtOk ws ds)
    (v : Value) (st : List Bool) (O : Chunk) (hO : Rd O 1 v st.length (st.map Value.bool)) (As : List Chunk) (hOA : O ∈ As) (w0 : World) (H : Hp w0 ([(p, pcl s vw vd)] :: Cw :: Cd :: (chs p ds ++ As))) :
    Ret Try.prog 14 #[ptr p, v] w0 fun _ w' => Trs w0 w' ([(p, pcl s vw vd)] :: Cw :: Cd :: (chs p ds ++ As)) ([(p, pcl ⟨-1, false, s.wr⟩ (.slice none 0 0) vd)] :: Cd :: (chs p ((upW ws st ds).map Dk.settle) ++ As)) := by
  have S := St.begin H
  obtain ⟨ad, c, rfl⟩ := hO.slice
  obtain ⟨adw, cw, rfl⟩ := hCw.slice
  obtain ⟨add, cd, rfl⟩ := hCd.slice
  have hwm := hCw.rd.2.2.1
  have hdm := hCd.rd.2.2.1
  simp only [maxLen] at hwm hdm
  obtain ⟨fin, hfin⟩ : ∃ fin, fin = upW ws st ds := ⟨_, rfl⟩
  rw [← hfin]
  refine enter2 70 Try.func14 rfl rfl (by decide) ?_; intro a E
  refine wp_seq_k ?_; intro K hK
  refine wp_seq_k ?_; intro K hK
  refine region_list ?_
  refine list_pure E rfl rfl (by decide) (rn_move E rfl rfl) ?_; clear E a; intro a E
  refine list_pure E rfl rfl (by decide) (rn_nilCheck E rfl rfl) ?_; clear E a; intro a E
  refine list_pure E rfl rfl (by decide) (by first | exact rn_fieldAddr0 (q := 0) E rfl rfl rfl | exact rn_fieldAddr (q := 0) E rfl rfl rfl) ?_; clear E a; intro a E
  refine list_pure E rfl rfl (by decide) (by first | exact rn_load E rfl rfl rfl (S.get (by repeat (first | exact pk1 | apply pick_tail))) rfl | exact rn_loadc E rfl rfl rfl (by assumption)) ?_; clear E a; intro a E
  refine list_pure E rfl rfl (by decide) (by first | exact rn_len E rfl rfl rfl | exact rn_len_str E rfl rfl rfl | exact rn_len_string E rfl rfl rfl) ?_; clear E a; intro a E
  refine list_pure E rfl rfl (by decide) (rn_move E rfl rfl) ?_; clear E a; intro a E
  refine wpList_nil ?_
  refine then_k hK ?_; clear hK; clear K
  refine wp_block ?_
  refine wp_loop_ghost (fun (m : Nat) (a : Act) (w' : World) => ∃ (i : Nat) (es : List Dk), m = ws.length - i ∧ i ≤ ws.length ∧ upW (ws.drop i) (st.drop i) es = fin ∧ es.map Dk.key = ds.map Dk.key ∧ St w0 ([(p, pcl s (.slice adw ws.length cw) (.slice add ds.length cd))] :: Cw :: Cd :: (chs p ds ++ As)) w' ([(p, pcl s (.slice adw ws.length cw) (.slice add ds.length cd))] :: Cw :: Cd :: (chs p es ++ As)) ∧ Fr a 70 [(0, ptr p), (1, .slice ad st.length c), (11, .slice adw ws.length cw), (12, .int .i64 ws.length), (13, .int .i64 i)]) (ws.length - 0) ?_ ?_
  · exact ⟨0, ds, rfl, by omega, by rw [hfin]; simp, rfl, S, E.keep (keep_cons rfl (keep_cons rfl (keep_cons rfl (keep_cons rfl (keep_cons rfl keep_nil)))))⟩
  clear E; clear a; (try clear S); rintro m a w ⟨i, es, rfl, hi, hrest, hkey, S, E⟩
  refine wp_seq_k ?_; intro K hK
  refine region_list ?_
  refine list_pure E rfl rfl (by decide) (rn_lss E rfl rfl rfl) ?_; clear E a; intro a E
  refine wpList_nil ?_
  refine then_k hK ?_; clear hK; clear K
  refine wp_seq_k ?_; intro K hK
  refine if_bool E rfl (fun hb => ?_) (fun hb => ?_)
  · replace hb := Nrm.nrm hb
    refine wp_skip ?_
    refine then_k hK ?_; clear hK; clear K
    refine wp_seq_k ?_; intro K hK
    refine wp_block ?_
    refine wp_seq_k ?_; intro K hK
    have hil : i < ws.length := by omega
    obtain ⟨x, hx⟩ : ∃ x, x = ws[i]'hil := ⟨_, rfl⟩
    have hxm : x ∈ ws := by rw [hx]; exact List.getElem_mem hil
    have hst : st.head? = st.head? := rfl
    rw [List.drop_eq_getElem_cons hil, ← hx, upW, List.tail_drop, List.head?_drop] at hrest
    obtain ⟨gw, rfl⟩ := hCw.addr (by omega)
    have hOm : O ∈ chs p es ++ As := List.mem_append_right _ hOA
    refine region_list ?_
    refine list_pure E rfl rfl (by decide) (rn_move E rfl rfl) ?_; clear E a; intro a E
    refine list_pure E rfl rfl (by decide) (rn_indexAddr (i := i) (s := 130) E rfl rfl rfl rfl rfl rfl (by omega)) ?_; clear E a; intro a E
    refine list_pure E rfl rfl (by decide) (rn_load_aggc (vs := x.lay) E rfl rfl rfl (Wt.lay_len x) (by rw [hx]; exact hCw.rd.elem (lay := Wt.lay) Wt.lay_len (S.stab.at (by repeat (first | exact mm1 | assumption | apply List.Mem.tail))) hil)) ?_; clear E a; intro a E
    refine list_wp rfl (wp_alloc E S rfl rfl (by decide) rfl rfl rfl ?_); clear E S a; intro a w b5 E S
    refine list_pure E rfl rfl (by decide) (rn_assign E rfl rfl) ?_; clear E a; intro a E
    refine list_wp rfl (wp_storeA E S rfl rfl rfl rfl x.lay_one rfl (Wt.lay_len x) (by repeat (first | exact pk1 | apply pick_tail)) (by rw [Wt.lay_len]; rfl) ?_); clear E S a; intro a w E S
    refine wpList_nil ?_
    refine then_k hK ?_; clear hK; clear K
    refine wp_seq_k ?_; intro K hK
    refine region_list ?_
    refine list_pure E rfl rfl (by decide) (rn_move E rfl rfl) ?_; clear E a; intro a E
    refine list_pure E rfl rfl (by decide) (rn_move E rfl rfl) ?_; clear E a; intro a E
    refine list_pure E rfl rfl (by decide) (by first | exact rn_len E rfl rfl rfl | exact rn_len_str E rfl rfl rfl | exact rn_len_string E rfl rfl rfl) ?_; clear E a; intro a E
    refine list_pure E rfl rfl (by decide) (rn_lss E rfl rfl rfl) ?_; clear E a; intro a E
    refine list_pure E rfl rfl (by decide) (rn_move E rfl rfl) ?_; clear E a; intro a E
    refine guard_split E (t := 22) rfl (fun hb22 => ?_) (fun hb22 => ?_)
    · have hb22n := hb22; replace hb22n := Nrm.nrm hb22n
      obtain ⟨gs, offs, rfl⟩ := hO.addr (by omega); have his : i < st.length := (by omega)
      refine list_guard_yes E rfl rfl rfl rfl hb22 rfl (by decide) (rn_move E rfl rfl) ?_; clear E a; intro a E
      refine list_guard_yes E rfl rfl rfl rfl hb22 rfl (by decide) (rn_move E rfl rfl) ?_; clear E a; intro a E
      refine list_guard_yes E rfl rfl rfl rfl hb22 rfl (by decide) (rn_indexAddr1 (i := i) E rfl rfl rfl rfl rfl rfl (by omega)) ?_; clear E a; intro a E
      refine list_guard_yes E rfl rfl rfl rfl hb22 rfl (by decide) (rn_loadc E rfl rfl rfl (hO.cells (S.stab.at (by repeat (first | exact mm1 | assumption | apply List.Mem.tail))) rfl i (.bool (st[i]'his)) (by simp [his]))) ?_; clear E a; intro a E
      refine list_pure E rfl rfl (by decide) (rn_pick_yes' E rfl rfl hb22 rfl) ?_; clear E a; intro a E
      refine wpList_nil ?_
      refine then_k hK ?_; clear hK; clear K
      refine if_bool E rfl (fun hb => ?_) (fun hb => ?_)
      · replace hb := Nrm.nrm hb
        have hyes : st[i]? = some true := (by rw [List.getElem?_eq_getElem his]; simpa using hb)
        rw [if_pos hyes] at hrest
        obtain ⟨⟨y, hy, hyd⟩, hfit⟩ := key_wt hkey hws x hxm
        have hok := key_ok hkey hds
        have hyf := hfit y hy hyd
        have hyl := hok.2 y hy
        have hpk := putD_key (w := x) hfit
        obtain ⟨A, B, rfl⟩ := List.append_of_mem hy
        rw [putD_one hyd hok.1] at hrest hpk
        have S := S.perm ((chs_open p _ _ _ A B y As).cons _)
        obtain ⟨yd, ygp, ygn, ypl, ynow, yfa⟩ := y
        simp only at hyd hyf hyl hrest hpk
        subst hyd
        have S : St w0 _ _ ([(b5, cel x.lay 65)] :: [(x.d, dcl p ygp ygn ypl.length yfa)] :: [(ygp, cel (byt ypl) 5)] :: [(ygn, cel (byt ynow) 5)] :: _) := S
        have hsl := setS_length (l := ypl) (b := x.b) (i := x.at_) hyf x.hb
        refine region_mix S (.ofL [(0, 0), (1, 0), (2, 0), (3, 0), (4, 0), (5, 0), (6, 0), (7, 0), (8, 0), (10, 0), (11, 0), (9, 1), (12, 3)]) [[(b5, cel x.lay 65)], [(x.d, dcl p ygp ygn ypl.length yfa)]] (fun h => h.sub (by first | (simp; done) | (simp +contextual; done))) (by kernel_rfl) (by kernel_rfl) ?_
        clear S; intro w S
        refine mix_pure E rfl rfl rfl (by decide) (fun w h => by first | exact rn_fieldAddr0 (q := 0) E rfl rfl rfl | exact rn_fieldAddr (q := 0) E rfl rfl rfl) ?_; clear E a; intro a E
        refine mix_pure E rfl rfl rfl (by decide) (fun w h => rn_loadc E rfl rfl rfl (blk_cell (h.one (by repeat (first | exact mm1 | assumption | apply List.Mem.tail))) (v := ptr x.d) rfl)) ?_; clear E a; intro a E
        refine mix_pure E rfl rfl rfl (by decide) (fun w h => by first | exact rn_fieldAddr0 (q := 0) E rfl rfl rfl | exact rn_fieldAddr (q := 0) E rfl rfl rfl) ?_; clear E a; intro a E
        refine mix_pure E rfl rfl rfl (by decide) (fun w h => rn_loadc E rfl rfl rfl (blk_cell (h.one (by repeat (first | exact mm1 | assumption | apply List.Mem.tail))) (v := ptr x.d) rfl)) ?_; clear E a; intro a E
        refine mix_pure E rfl rfl rfl (by decide) (fun w h => rn_nilCheck E rfl rfl) ?_; clear E a; intro a E
        refine mix_pure E rfl rfl rfl (by decide) (fun w h => by first | exact rn_fieldAddr0 (q := 1) E rfl rfl rfl | exact rn_fieldAddr (q := 1) E rfl rfl rfl) ?_; clear E a; intro a E
        refine mix_pure E rfl rfl rfl (by decide) (fun w h => by first | exact rn_load E rfl rfl rfl (h.one (by repeat (first | exact mm1 | assumption | apply List.Mem.tail))) rfl | exact rn_loadc E rfl rfl rfl (by assumption)) ?_; clear E a; intro a E
        refine mix_pure E rfl rfl rfl (by decide) (fun w h => by first | exact rn_fieldAddr0 (q := 1) E rfl rfl rfl | exact rn_fieldAddr (q := 1) E rfl rfl rfl) ?_; clear E a; intro a E
        refine mix_pure E rfl rfl rfl (by decide) (fun w h => rn_loadc E rfl rfl rfl (blk_cell (h.one (by repeat (first | exact mm1 | assumption | apply List.Mem.tail))) (v := .int .i64 x.at_) rfl)) ?_; clear E a; intro a E
        refine mix_pure E rfl rfl rfl (by decide) (fun w h => by first | exact rn_fieldAddr0 (q := 2) E rfl rfl rfl | exact rn_fieldAddr (q := 2) E rfl rfl rfl) ?_; clear E a; intro a E
        refine mix_pure E rfl rfl rfl (by decide) (fun w h => rn_slice_arr E rfl rfl rfl rfl (by decide)) ?_; clear E a; intro a E
        refine mix_call E rfl rfl rfl (by decide) rfl Try.func30 rfl (by kernel_rfl) rfl (dsector_ret (ptr x.d) ygp ypl.length x.at_ hyf hyl.2 _) ?_
        rintro v37 w ⟨rfl, hT⟩; clear E a; intro a E
        have S := S.quiet hT
        refine ⟨S.stab.sub (by first | (simp; done) | (simp +contextual; done)), ?_⟩
        have hRx := rd_part (g := b5) (m := 128) (T := 65) [ptr x.d, .int .i64 x.at_] (byt x.b) [] (by rw [byt_length, x.hb]) (byt_one _) (by omega) 128
        rw [List.append_nil, show [ptr x.d, .int .i64 x.at_] ++ byt x.b = x.lay from rfl] at hRx
        refine mix_last rfl rfl (wp_copy E S rfl rfl (by decide) rfl rfl (by repeat (first | exact pk1 | apply pick_tail)) (hRx.copySrc (S.stab.at (by repeat (first | exact mm1 | assumption | apply List.Mem.tail))) rfl) rfl rfl (by rw [byt_length]; omega) ?_); clear E S a; intro a w E S
        rw [Nat.min_self, show (byt x.b).take 128 = byt x.b from List.take_of_length_le (by rw [byt_length, x.hb]; omega), byt_setS _ _ _ x.hb] at S
        refine mix_nil ?_
        refine in_normal ?_
        refine then_k hK ?_; clear hK; clear K
        refine region_list ?_
        refine list_pure E rfl rfl (by decide) (rn_add E rfl rfl rfl (by first | exact wa_lit (y := 1) (by omega) | exact w_in (by omega) | exact w_inu (by omega) | exact rfl)) ?_; clear E a; intro a E
        refine list_pure E rfl rfl (by decide) (rn_move E rfl rfl) ?_; clear E a; intro a E
        refine wpList_nil ?_
        refine then_normal ?_
        first
        | (rw [if_neg hno] at hrest
           exact ⟨_, by omega, i + 1, es, rfl, by omega, hrest, hkey, S.del (A := [(b5, _)]) (by repeat (first | exact pk1 | apply pick_tail)), E.keep (keep_cons rfl (keep_cons rfl (keep_cons rfl (keep_cons rfl (keep_cons rfl keep_nil)))))⟩)
        | (have S := (S.del (A := [(b5, _)]) (by repeat (first | exact pk1 | apply pick_tail))).front3 (A := [(x.d, dcl p ygp ygn ypl.length yfa)]) (by repeat (first | exact pk1 | apply pick_tail)) (B := [(ygp, _)]) (by repeat (first | exact pk1 | apply pick_tail)) (C := [(ygn, _)]) (by repeat (first | exact pk1 | apply pick_tail))
           rw [← hsl] at S
           have S := S.perm (chs_open p _ _ _ A B ⟨x.d, ygp, ygn, setS ypl x.at_ x.b, ynow, yfa⟩ As).symm
           exact ⟨_, by omega, i + 1, _, rfl, by omega, hrest, hpk.trans hkey, S, E.keep (keep_cons rfl (keep_cons rfl (keep_cons rfl (keep_cons rfl (keep_cons rfl keep_nil)))))⟩)
      · replace hb := Nrm.nrm hb
        have hno : st[i]? ≠ some true := (by rw [List.getElem?_eq_getElem his]; simpa using hb)
        refine wp_skip ?_
        refine in_normal ?_
        refine then_k hK ?_; clear hK; clear K
        refine region_list ?_
        refine list_pure E rfl rfl (by decide) (rn_add E rfl rfl rfl (by first | exact wa_lit (y := 1) (by omega) | exact w_in (by omega) | exact w_inu (by omega) | exact rfl)) ?_; clear E a; intro a E
        refine list_pure E rfl rfl (by decide) (rn_move E rfl rfl) ?_; clear E a; intro a E
        refine wpList_nil ?_
        refine then_normal ?_
        first
        | (rw [if_neg hno] at hrest
           exact ⟨_, by omega, i + 1, es, rfl, by omega, hrest, hkey, S.del (A := [(b5, _)]) (by repeat (first | exact pk1 | apply pick_tail)), E.keep (keep_cons rfl (keep_cons rfl (keep_cons rfl (keep_cons rfl (keep_cons rfl keep_nil)))))⟩)
        | (have S := (S.del (A := [(b5, _)]) (by repeat (first | exact pk1 | apply pick_tail))).front3 (A := [(x.d, dcl p ygp ygn ypl.length yfa)]) (by repeat (first | exact pk1 | apply pick_tail)) (B := [(ygp, _)]) (by repeat (first | exact pk1 | apply pick_tail)) (C := [(ygn, _)]) (by repeat (first | exact pk1 | apply pick_tail))
           rw [← hsl] at S
           have S := S.perm (chs_open p _ _ _ A B ⟨x.d, ygp, ygn, setS ypl x.at_ x.b, ynow, yfa⟩ As).symm
           exact ⟨_, by omega, i + 1, _, rfl, by omega, hrest, hpk.trans hkey, S, E.keep (keep_cons rfl (keep_cons rfl (keep_cons rfl (keep_cons rfl (keep_cons rfl keep_nil)))))⟩)
    · have hb22n := hb22; replace hb22n := Nrm.nrm hb22n
      have hno : st[i]? ≠ some true := (by rw [List.getElem?_eq_none (by omega)]; simp)
      refine list_guard_no E rfl rfl rfl rfl hb22 rfl (by decide) ?_; clear E a; intro a E
      refine list_guard_no E rfl rfl rfl rfl hb22 rfl (by decide) ?_; clear E a; intro a E
      refine list_guard_no E rfl rfl rfl rfl hb22 rfl (by decide) ?_; clear E a; intro a E
      refine list_guard_no E rfl rfl rfl rfl hb22 rfl (by decide) ?_; clear E a; intro a E
      refine list_pure E rfl rfl (by decide) (rn_pick_no' E rfl rfl hb22 rfl) ?_; clear E a; intro a E
      refine wpList_nil ?_
      refine then_k hK ?_; clear hK; clear K
      refine if_false' E rfl rfl ?_
      refine wp_skip ?_
      refine in_normal ?_
      refine then_k hK ?_; clear hK; clear K
      refine region_list ?_
      refine list_pure E rfl rfl (by decide) (rn_add E rfl rfl rfl (by first | exact wa_lit (y := 1) (by omega) | exact w_in (by omega) | exact w_inu (by omega) | exact rfl)) ?_; clear E a; intro a E
      refine list_pure E rfl rfl (by decide) (rn_move E rfl rfl) ?_; clear E a; intro a E
      refine wpList_nil ?_
      refine then_normal ?_
      first
      | (rw [if_neg hno] at hrest
         exact ⟨_, by omega, i + 1, es, rfl, by omega, hrest, hkey, S.del (A := [(b5, _)]) (by repeat (first | exact pk1 | apply pick_tail)), E.keep (keep_cons rfl (keep_cons rfl (keep_cons rfl (keep_cons rfl (keep_cons rfl keep_nil)))))⟩)
      | (have S := (S.del (A := [(b5, _)]) (by repeat (first | exact pk1 | apply pick_tail))).front3 (A := [(x.d, dcl p ygp ygn ypl.length yfa)]) (by repeat (first | exact pk1 | apply pick_tail)) (B := [(ygp, _)]) (by repeat (first | exact pk1 | apply pick_tail)) (C := [(ygn, _)]) (by repeat (first | exact pk1 | apply pick_tail))
         rw [← hsl] at S
         have S := S.perm (chs_open p _ _ _ A B ⟨x.d, ygp, ygn, setS ypl x.at_ x.b, ynow, yfa⟩ As).symm
         exact ⟨_, by omega, i + 1, _, rfl, by omega, hrest, hpk.trans hkey, S, E.keep (keep_cons rfl (keep_cons rfl (keep_cons rfl (keep_cons rfl (keep_cons rfl keep_nil)))))⟩)
  · replace hb := Nrm.nrm hb
    refine wp_exit ?_
    refine then_exit ?_; clear hK; clear K
    refine then_exit ?_
    refine in_exit ?_
    refine then_k hK ?_; clear hK; clear K
    refine wp_seq_k ?_; intro K hK
    obtain rfl : i = ws.length := by omega
    rw [List.drop_length, upW] at hrest
    subst hrest
    have hlen : es.length = ds.length := by have := congrArg List.length hkey; simpa using this
    have hok := key_ok hkey hds
    have hkd := key_d hkey
    refine region_list ?_
    refine list_pure E rfl rfl (by decide) (rn_move E rfl rfl) ?_; clear E a; intro a E
    refine list_pure E rfl rfl (by decide) (rn_move E rfl rfl) ?_; clear E a; intro a E
    refine list_pure E rfl rfl (by decide) (rn_move E rfl rfl) ?_; clear E a; intro a E
    refine list_pure E rfl rfl (by decide) (rn_nilCheck E rfl rfl) ?_; clear E a; intro a E
    refine list_pure E rfl rfl (by decide) (by first | exact rn_fieldAddr0 (q := 0) E rfl rfl rfl | exact rn_fieldAddr (q := 0) E rfl rfl rfl) ?_; clear E a; intro a E
    refine list_wp rfl (wp_store1 E S rfl rfl rfl rfl rfl rfl (by repeat (first | exact pk1 | apply pick_tail)) (by first | exact Nat.le_of_ble_eq_true rfl | (simp; done) | (simp; omega)) ?_); clear E S a; intro a w E S; try dsimp only [List.set] at S
    refine list_pure E rfl rfl (by decide) (rn_nilCheck E rfl rfl) ?_; clear E a; intro a E
    refine list_pure E rfl rfl (by decide) (by first | exact rn_fieldAddr0 (q := 1) E rfl rfl rfl | exact rn_fieldAddr (q := 1) E rfl rfl rfl) ?_; clear E a; intro a E
    refine list_wp rfl (wp_store1 E S rfl rfl rfl rfl rfl rfl (by repeat (first | exact pk1 | apply pick_tail)) (by first | exact Nat.le_of_ble_eq_true rfl | (simp; done) | (simp; omega)) ?_); clear E S a; intro a w E S; try dsimp only [List.set] at S
    refine list_pure E rfl rfl (by decide) (rn_nilCheck E rfl rfl) ?_; clear E a; intro a E
    refine list_pure E rfl rfl (by decide) (by first | exact rn_fieldAddr0 (q := 2) E rfl rfl rfl | exact rn_fieldAddr (q := 2) E rfl rfl rfl) ?_; clear E a; intro a E
    refine list_wp rfl (wp_store1 E S rfl rfl rfl rfl rfl rfl (by repeat (first | exact pk1 | apply pick_tail)) (by first | exact Nat.le_of_ble_eq_true rfl | (simp; done) | (simp; omega)) ?_); clear E S a; intro a w E S; try dsimp only [List.set] at S
    refine wpList_nil ?_
    refine then_k hK ?_; clear hK; clear K
    refine wp_seq_k ?_; intro K hK
    refine region_list ?_
    refine list_pure E rfl rfl (by decide) (rn_move E rfl rfl) ?_; clear E a; intro a E
    refine list_pure E rfl rfl (by decide) (rn_nilCheck E rfl rfl) ?_; clear E a; intro a E
    refine list_pure E rfl rfl (by decide) (by first | exact rn_fieldAddr0 (q := 4) E rfl rfl rfl | exact rn_fieldAddr (q := 4) E rfl rfl rfl) ?_; clear E a; intro a E
    refine list_pure E rfl rfl (by decide) (by first | exact rn_load E rfl rfl rfl (S.get (by repeat (first | exact pk1 | apply pick_tail))) rfl | exact rn_loadc E rfl rfl rfl (by assumption)) ?_; clear E a; intro a E
    refine list_pure E rfl rfl (by decide) (by first | exact rn_len E rfl rfl rfl | exact rn_len_str E rfl rfl rfl | exact rn_len_string E rfl rfl rfl) ?_; clear E a; intro a E
    refine list_pure E rfl rfl (by decide) (rn_move E rfl rfl) ?_; clear E a; intro a E
    refine wpList_nil ?_
    refine then_k hK ?_; clear hK; clear K
    refine wp_block ?_
    refine wp_loop_ghost (fun (m : Nat) (a : Act) (w' : World) => ∃ k : Nat, m = ds.length - k ∧ k ≤ ds.length ∧ St w0 ([(p, pcl s (.slice adw ws.length cw) (.slice add ds.length cd))] :: Cw :: Cd :: (chs p ds ++ As)) w' ([(p, pcl ⟨-1, false, s.wr⟩ (.slice none 0 0) (.slice add ds.length cd))] :: Cw :: Cd :: (chs p ((es.take k).map Dk.settle ++ es.drop k) ++ As)) ∧ Fr a 70 [(54, .slice add ds.length cd), (55, .int .i64 ds.length), (56, .int .i64 k)]) (ds.length - 0) ?_ ?_
    · exact ⟨0, rfl, by omega, by simpa using S, E.keep (keep_cons rfl (keep_cons rfl (keep_cons rfl keep_nil)))⟩
    clear E; clear a; (try clear S); rintro m a w ⟨k, rfl, hk, S, E⟩
    refine wp_seq_k ?_; intro K hK
    refine region_list ?_
    refine list_pure E rfl rfl (by decide) (rn_lss E rfl rfl rfl) ?_; clear E a; intro a E
    refine wpList_nil ?_
    refine then_k hK ?_; clear hK; clear K
    refine wp_seq_k ?_; intro K hK
    refine if_bool E rfl (fun hb => ?_) (fun hb => ?_)
    · replace hb := Nrm.nrm hb
      refine wp_skip ?_
      refine then_k hK ?_; clear hK; clear K
      refine wp_seq_k ?_; intro K hK
      refine wp_block ?_
      refine wp_seq_k ?_; intro K hK
      have hkl : k < ds.length := by omega
      have hke : k < es.length := by omega
      obtain ⟨gd, rfl⟩ := hCd.addr (by omega)
      obtain ⟨y, hy⟩ : ∃ y, y = es[k]'hke := ⟨_, rfl⟩
      have hym : y ∈ es := by rw [hy]; exact List.getElem_mem hke
      have hyl := hok.2 y hym
      have hdd : (ds.map fun x => ptr x.d)[k]? = some (ptr y.d) := by
        have h : (ds.map Dk.d)[k]? = some y.d := by rw [← hkd, hy]; simp [hke]
        rw [List.getElem?_map] at h ⊢
        cases hq : ds[k]? with
        | none => rw [hq] at h; simp at h
        | some z => rw [hq] at h; simp at h; simp [h]
      rw [List.drop_eq_getElem_cons hke, ← hy] at S
      have S := S.perm (chs_open p _ _ _ ((es.take k).map Dk.settle) (es.drop (k + 1)) y As)
      obtain ⟨yd, ygp, ygn, ypl, ynow, yfa⟩ := y
      simp only at hyl hdd
      have S : St w0 _ _ ([(yd, dcl p ygp ygn ypl.length yfa)] :: [(ygp, cel (byt ypl) 5)] :: [(ygn, cel (byt ynow) 5)] :: _) := S
      refine region_list ?_
      refine list_pure E rfl rfl (by decide) (rn_indexAddr1 (i := k) E rfl rfl rfl rfl rfl rfl (by omega)) ?_; clear E a; intro a E
      refine list_pure E rfl rfl (by decide) (rn_loadc E rfl rfl rfl (hCd.rd.cells (S.stab.at (by repeat (first | exact mm1 | assumption | apply List.Mem.tail))) rfl k _ hdd)) ?_; clear E a; intro a E
      refine list_pure E rfl rfl (by decide) (rn_assign E rfl rfl) ?_; clear E a; intro a E
      refine wpList_nil ?_
      refine then_k hK ?_; clear hK; clear K
      have hR := rd_cells (g := ygp) (T := 5) (xs := byt ypl) (s := 1) (m := ypl.length) (by rw [byt_length]; omega) (byt_one ypl) (by omega) ypl.length
      refine region_mix0 S (.ofL [(0, 0), (1, 0), (2, 0), (3, 0), (4, 0), (5, 0), (6, 0), (7, 0), (8, 3)]) (by kernel_rfl) (by kernel_rfl) ?_
      clear S; intro w S
      refine mix_pure E rfl rfl rfl (by decide) (fun w h => rn_move E rfl rfl) ?_; clear E a; intro a E
      refine mix_pure E rfl rfl rfl (by decide) (fun w h => rn_nilCheck E rfl rfl) ?_; clear E a; intro a E
      refine mix_pure E rfl rfl rfl (by decide) (fun w h => by first | exact rn_fieldAddr0 (q := 2) E rfl rfl rfl | exact rn_fieldAddr (q := 2) E rfl rfl rfl) ?_; clear E a; intro a E
      refine mix_pure E rfl rfl rfl (by decide) (fun w h => by first | exact rn_load E rfl rfl rfl (h.one (by repeat (first | exact mm1 | assumption | apply List.Mem.tail))) rfl | exact rn_loadc E rfl rfl rfl (by assumption)) ?_; clear E a; intro a E
      refine mix_pure E rfl rfl rfl (by decide) (fun w h => rn_move E rfl rfl) ?_; clear E a; intro a E
      refine mix_pure E rfl rfl rfl (by decide) (fun w h => rn_nilCheck E rfl rfl) ?_; clear E a; intro a E
      refine mix_pure E rfl rfl rfl (by decide) (fun w h => by first | exact rn_fieldAddr0 (q := 1) E rfl rfl rfl | exact rn_fieldAddr (q := 1) E rfl rfl rfl) ?_; clear E a; intro a E
      refine mix_pure E rfl rfl rfl (by decide) (fun w h => by first | exact rn_load E rfl rfl rfl (h.one (by repeat (first | exact mm1 | assumption | apply List.Mem.tail))) rfl | exact rn_loadc E rfl rfl rfl (by assumption)) ?_; clear E a; intro a E
      refine mix_last rfl rfl (wp_copy E S rfl rfl (by decide) rfl rfl (by repeat (first | exact pk1 | apply pick_tail)) (hR.copySrc (S.stab.at (by repeat (first | exact mm1 | assumption | apply List.Mem.tail))) rfl) rfl rfl (by rw [byt_length]; omega) ?_); clear E S a; intro a w E S
      rw [copy_whole (by rw [byt_length]; exact hyl.1) (byt_length ypl)] at S
      refine mix_nil ?_
      refine in_normal ?_
      refine then_k hK ?_; clear hK; clear K
      refine region_list ?_
      refine list_pure E rfl rfl (by decide) (rn_add E rfl rfl rfl (by first | exact wa_lit (y := 1) (by omega) | exact w_in (by omega) | exact w_inu (by omega) | exact rfl)) ?_; clear E a; intro a E
      refine list_pure E rfl rfl (by decide) (rn_move E rfl rfl) ?_; clear E a; intro a E
      refine wpList_nil ?_
      refine then_normal ?_
      have S := S.front3 (A := [(yd, dcl p ygp ygn ypl.length yfa)]) (by repeat (first | exact pk1 | apply pick_tail)) (B := [(ygp, cel (byt ypl) 5)]) (by repeat (first | exact pk1 | apply pick_tail)) (C := [(ygn, cel (byt ypl) 5)]) (by repeat (first | exact pk1 | apply pick_tail))
      have S := S.perm (chs_open p _ _ _ ((es.take k).map Dk.settle) (es.drop (k + 1)) ⟨yd, ygp, ygn, ypl, ypl, yfa⟩ As).symm
      have htk : (es.take (k + 1)).map Dk.settle ++ es.drop (k + 1) = (es.take k).map Dk.settle ++ ⟨yd, ygp, ygn, ypl, ypl, yfa⟩ :: es.drop (k + 1) := by
        rw [← List.take_append_getElem hke, List.map_append, List.append_assoc, ← hy]; rfl
      exact ⟨_, by omega, k + 1, rfl, by omega, by rw [htk]; exact S, E.keep (keep_cons rfl (keep_cons rfl (keep_cons rfl keep_nil)))⟩
    · replace hb := Nrm.nrm hb
      refine wp_exit ?_
      refine then_exit ?_; clear hK; clear K
      refine then_exit ?_
      refine in_exit ?_
      refine end0 E rfl ?_
      obtain rfl : k = ds.length := by omega
      rw [← hlen, List.take_length, List.drop_length, List.append_nil, hlen] at S
      exact ⟨_, rfl, (S.del (A := Cw) (by repeat (first | exact pk1 | apply pick_tail))).tr⟩
end Go.Proofs.Ytpppaohhnlgfoaa
