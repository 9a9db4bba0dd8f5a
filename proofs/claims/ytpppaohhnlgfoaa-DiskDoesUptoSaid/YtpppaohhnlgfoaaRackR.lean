/-
  A power with its disks, all in one chunk: what each call makes of it.
-/
import Derived.Test.YtpppaohhnlgfoaaRackQ
namespace Go.Sl
/-- A power with what waits and its disks. -/
structure Rk where
  pw : Pw
  ws : List Wt
  ds : List Dk
def setD (ds : List Dk) (d : Nat) (g : Dk → Dk) : List Dk := ds.map fun x => if x.d = d then g x else x
theorem setD_at {A B : List Dk} {x : Dk} (g : Dk → Dk) (hnd : ((A ++ x :: B).map Dk.d).Nodup) : setD (A ++ x :: B) x.d g = A ++ g x :: B := by
  have h : ∀ l : List Dk, (∀ y ∈ l, y.d ≠ x.d) → l.map (fun y => if y.d = x.d then g y else y) = l := fun l hl => by
    conv => rhs; rw [← List.map_id l]
    exact List.map_congr_left fun y hy => by rw [if_neg (fun q => hl y hy q)]; rfl
  rw [List.map_append, List.map_cons, List.nodup_append] at hnd
  obtain ⟨h1, h2, h3⟩ := hnd
  rw [List.nodup_cons] at h2
  rw [setD, List.map_append, List.map_cons, if_pos rfl, h A (fun y hy q => h3 y.d (List.mem_map_of_mem hy) x.d (List.mem_cons_self ..) q), h B (fun y hy q => h2.1 (by rw [← q]; exact List.mem_map_of_mem hy))]
/-- The disk with this address is just that one. -/
theorem disk_one {ds : List Dk} (hnd : (ds.map Dk.d).Nodup) {x y : Dk} (hx : x ∈ ds) (hy : y ∈ ds) (h : x.d = y.d) : x = y := by
  induction ds with
  | nil => cases hx
  | cons z r ih =>
    rw [List.map_cons, List.nodup_cons] at hnd
    rcases List.mem_cons.1 hx with rfl | hx'
    · rcases List.mem_cons.1 hy with rfl | hy'
      · rfl
      · exact absurd (by rw [h]; exact List.mem_map_of_mem hy') hnd.1
    · rcases List.mem_cons.1 hy with rfl | hy'
      · exact absurd (by rw [← h]; exact List.mem_map_of_mem hx') hnd.1
      · exact ih hnd.2 hx' hy'
/-- The same disk, with other bytes. -/
structure Same (x y : Dk) : Prop where
  d : y.d = x.d
  gp : y.gp = x.gp
  gn : y.gn = x.gn
  pl : y.pl.length = x.pl.length
  now : y.now.length = x.pl.length
/-- What each call makes of it. -/
def Rk.write (R : Rk) (x : Dk) (at_ : Int) (b : List UInt8) : Rk :=
  ⟨(wrS x.d x.pl.length at_ b R.pw x.failed x.now R.ws).1, (wrS x.d x.pl.length at_ b R.pw x.failed x.now R.ws).2.2.1, setD R.ds x.d fun y => { y with now := (wrS x.d x.pl.length at_ b R.pw x.failed x.now R.ws).2.1 }⟩
def Rk.writeE (R : Rk) (x : Dk) (at_ : Int) (b : List UInt8) : Int := (wrS x.d x.pl.length at_ b R.pw x.failed x.now R.ws).2.2.2
def Rk.flush (R : Rk) (x : Dk) : Rk := ⟨R.pw, flW x.d R.pw x.failed R.ws, setD R.ds x.d fun y => { y with pl := flP R.pw x.failed x.pl x.now }⟩
def Rk.fail (R : Rk) (x : Dk) : Rk := ⟨R.pw, outW x.d R.ws, setD R.ds x.d fun y => { y with now := x.pl, failed := true }⟩
def Rk.replace (R : Rk) (x : Dk) : Rk := ⟨R.pw, outW x.d R.ws, setD R.ds x.d fun y => { y with pl := List.replicate x.pl.length 0, now := List.replicate x.pl.length 0, failed := false }⟩
def Rk.corrupt (R : Rk) (x : Dk) (at_ : Int) (mask : List UInt8) : Rk :=
  ⟨R.pw, coWs x.d x.failed x.pl.length at_ mask R.ws, setD R.ds x.d fun y => { y with pl := coB x.failed x.pl.length at_ mask x.pl, now := coB x.failed x.pl.length at_ mask x.now }⟩
def Rk.up (R : Rk) (st : List Bool) : Rk := ⟨⟨-1, false, R.pw.wr⟩, [], (upW R.ws st R.ds).map Dk.settle⟩
def Rk.cut (R : Rk) (k : Int) : Rk := { R with pw := { R.pw with left := max (-1) k } }
def Rk.add (R : Rk) (d gp gn n : Nat) : Rk := { R with ds := R.ds ++ [⟨d, gp, gn, List.replicate (n * 128) 0, List.replicate (n * 128) 0, false⟩] }
theorem coB_length {f : Bool} {n : Nat} {at_ : Int} {mask b : List UInt8} (hb : b.length = n) : (coB f n at_ mask b).length = n := by
  unfold coB
  split
  · rename_i h
    have hm : coMay n at_ mask := by
      unfold coE at h
      split at h
      · cases h
      · split at h
        · assumption
        · cases h
    obtain ⟨h1, h2, h3⟩ := hm
    rw [setS_length (by omega) (by rw [xorB_length, secB_length (by omega)])]; exact hb
  · exact hb
theorem coWs_mem {d : Nat} {f : Bool} {n : Nat} {at_ : Int} {mask : List UInt8} {ws : List Wt} {w : Wt} (h : w ∈ coWs d f n at_ mask ws) : ∃ w0 ∈ ws, w0.d = w.d ∧ w0.at_ = w.at_ := by
  unfold coWs at h
  split at h
  · obtain ⟨w0, h1, h2⟩ := List.mem_map.1 h
    refine ⟨w0, h1, ?_⟩
    split at h2 <;> subst h2 <;> exact ⟨rfl, rfl⟩
  · exact ⟨w, h, rfl, rfl⟩
theorem coWs_length {d : Nat} {f : Bool} {n : Nat} {at_ : Int} {mask : List UInt8} {ws : List Wt} : (coWs d f n at_ mask ws).length = ws.length := by
  unfold coWs; split
  · exact coW_length ..
  · rfl
end Go.Sl
namespace Go.Proofs.Ytpppaohhnlgfoaa
open Go.Sl
set_option maxRecDepth 10000

theorem dk_swap {A B : List Dk} {x y : Dk} (h : DkOk (A ++ x :: B)) (hs : Same x y) : DkOk (A ++ y :: B) := by
  obtain ⟨h1, h2⟩ := h
  refine ⟨by simpa [hs.d] using h1, fun z hz => ?_⟩
  rcases List.mem_append.1 hz with hz | hz
  · exact h2 z (List.mem_append_left _ hz)
  · rcases List.mem_cons.1 hz with rfl | hz
    · have := h2 x (List.mem_append_right _ (List.mem_cons_self ..))
      rw [hs.pl, hs.now]; exact ⟨rfl, this.2⟩
    · exact h2 z (List.mem_append_right _ (List.mem_cons_of_mem _ hz))
theorem wt_swap {A B : List Dk} {ws : List Wt} {x y : Dk} (h : WtOk ws (A ++ x :: B)) (hs : Same x y) : WtOk ws (A ++ y :: B) := fun w hw => by
  obtain ⟨⟨z, h1, h2⟩, h3⟩ := h w hw
  refine ⟨?_, fun u hu hud => ?_⟩
  · rcases List.mem_append.1 h1 with h1 | h1
    · exact ⟨z, List.mem_append_left _ h1, h2⟩
    · rcases List.mem_cons.1 h1 with rfl | h1
      · exact ⟨y, List.mem_append_right _ (List.mem_cons_self ..), by rw [hs.d]; exact h2⟩
      · exact ⟨z, List.mem_append_right _ (List.mem_cons_of_mem _ h1), h2⟩
  · rcases List.mem_append.1 hu with hu | hu
    · exact h3 u (List.mem_append_left _ hu) hud
    · rcases List.mem_cons.1 hu with rfl | hu
      · rw [hs.pl]; exact h3 x (List.mem_append_right _ (List.mem_cons_self ..)) (by rw [← hs.d]; exact hud)
      · exact h3 u (List.mem_append_right _ (List.mem_cons_of_mem _ hu)) hud
theorem wt_sub {ds : List Dk} {ws ws' : List Wt} (h : WtOk ws ds) (k : ∀ w ∈ ws', w ∈ ws) : WtOk ws' ds := fun w hw => h w (k w hw)

abbrev RkL (p : Nat) (R : Rk) (vw vd : Value) (Cw Cd : Chunk) : List Chunk := [(p, pcl R.pw vw vd)] :: Cw :: Cd :: chs p R.ds
/-- All its blocks. -/
def RkC (p : Nat) (R : Rk) (C : Chunk) : Prop :=
  ∃ vw vd Cw Cd, Buf Cw 65 130 vw R.ws.length (wl R.ws) ∧ Buf Cd 27 1 vd R.ds.length (R.ds.map fun x => ptr x.d) ∧ DkOk R.ds ∧ WtOk R.ws R.ds ∧ C = (RkL p R vw vd Cw Cd).flatten
theorem RkC.ok {p : Nat} {R : Rk} {C : Chunk} (h : RkC p R C) : DkOk R.ds ∧ WtOk R.ws R.ds := by
  obtain ⟨_, _, _, _, _, _, h1, h2, _⟩ := h; exact ⟨h1, h2⟩

section
variable {w0 w : World} {As Ls : List Chunk} {p : Nat} {s : Pw} {vw vd : Value} {Cw Cd C : Chunk} {ws : List Wt} {A B : List Dk} {x y : Dk}
/-- One disk taken out, and put back. -/
theorem rk_out (S : St w0 As w ((RkL p ⟨s, ws, A ++ x :: B⟩ vw vd Cw Cd).flatten :: Ls)) : St w0 As w ([(p, pcl s vw vd)] :: Cw :: ch1 p x :: ch2 x :: ch3 x :: Cd :: (chs p (A ++ B) ++ Ls)) := by
  have S : St w0 As w ([(p, pcl s vw vd)] :: Cw :: Cd :: (chs p (A ++ x :: B) ++ Ls)) := S.openF
  have S := S.perm (chs_open p _ _ _ A B x Ls)
  exact S.front5 (A := [(p, pcl s vw vd)]) (by repeat (first | exact pk1 | apply pick_tail)) (B := Cw) (by repeat (first | exact pk1 | apply pick_tail)) (C := ch1 p x) (by repeat (first | exact pk1 | apply pick_tail)) (D := ch2 x) (by repeat (first | exact pk1 | apply pick_tail)) (F := ch3 x) (by repeat (first | exact pk1 | apply pick_tail))
theorem rk_in (S : St w0 As w ([(p, pcl s vw vd)] :: Cw :: ch1 p x :: ch2 x :: ch3 x :: Cd :: (chs p (A ++ B) ++ Ls))) : St w0 As w ((RkL p ⟨s, ws, A ++ x :: B⟩ vw vd Cw Cd).flatten :: Ls) := by
  have S := S.front6 (A := ch1 p x) (by repeat (first | exact pk1 | apply pick_tail)) (B := ch2 x) (by repeat (first | exact pk1 | apply pick_tail)) (C := ch3 x) (by repeat (first | exact pk1 | apply pick_tail)) (D := [(p, pcl s vw vd)]) (by repeat (first | exact pk1 | apply pick_tail)) (F := Cw) (by repeat (first | exact pk1 | apply pick_tail)) (G := Cd) (by repeat (first | exact pk1 | apply pick_tail))
  have S := S.perm (chs_open p _ _ _ A B x Ls).symm
  exact St.closeF (Ms := RkL p ⟨s, ws, A ++ x :: B⟩ vw vd Cw Cd) S
theorem rk_in1 {E : Chunk} (S : St w0 As w ([(p, pcl s vw vd)] :: Cw :: ch1 p x :: ch2 x :: ch3 x :: Cd :: E :: (chs p (A ++ B) ++ Ls))) : St w0 As w ((RkL p ⟨s, ws, A ++ x :: B⟩ vw vd Cw Cd).flatten :: E :: Ls) :=
  rk_in (Ls := E :: Ls) (S.perm (((((((List.perm_middle (l₁ := chs p (A ++ B)) (a := E) (l₂ := Ls)).symm).cons _).cons _).cons _).cons _).cons _ |>.cons _))
theorem rk_bks (h : WtOk ws (A ++ x :: B)) {Ms : List Chunk} (hM : ∀ c ∈ chs p (A ++ B), c ∈ Ms) : ∀ w ∈ ws, w.d = x.d ∨ Bks Ms w.d := fun w hw => by
  obtain ⟨⟨z, h1, h2⟩, -⟩ := h w hw
  have h1 : z = x ∨ z ∈ A ++ B := by
    rcases List.mem_append.1 h1 with h1 | h1
    · exact .inr (List.mem_append_left _ h1)
    · rcases List.mem_cons.1 h1 with h1 | h1
      · exact .inl h1
      · exact .inr (List.mem_append_right _ h1)
  rcases h1 with rfl | h1
  · exact .inl h2.symm
  · have hm : (z.d, dcl p z.gp z.gn z.pl.length z.failed) ∈ ch1 p z := List.mem_singleton.2 rfl
    rw [h2] at hm
    exact .inr ⟨ch1 p z, hM _ (List.mem_flatMap.2 ⟨z, h1, List.mem_cons_self ..⟩), _, _, hm⟩
theorem ds_ptrs (h : y.d = x.d) : ((A ++ y :: B).map fun z => ptr z.d) = (A ++ x :: B).map fun z => ptr z.d := by simp [h]
end

theorem rk_newp (w0 : World) : Ret Try.prog 8 #[] w0 fun u w' => ∃ p C, u = ptr p ∧ RkC p ⟨⟨-1, false, 0⟩, [], []⟩ C ∧ Trs w0 w' [] [C] := by
  refine (newpower_ret w0).mono fun u w' ⟨p, h, hT⟩ => ?_
  refine ⟨p, _, h, ⟨_, _, [], [], Buf.nil _ _, Buf.nil _ _, ⟨by simp, by simp⟩, fun w hw => by simp at hw, rfl⟩, ?_⟩
  simpa [chs] using hT

theorem rk_write (p : Nat) (R : Rk) (C : Chunk) (hC : RkC p R C) (x : Dk) (hx : x ∈ R.ds) (hws : R.ws.length + 8192 ≤ 244335861110) (hwr : R.pw.wr ≤ 1000000000000000000) (hlf : R.pw.left ≤ 9223372036854775807)
    (at_ : Int) (ha : -9223372036854775808 ≤ at_ ∧ at_ ≤ 9223372036854775807) (v : Value) (b : List UInt8) (D : Chunk) (hD : Rd D 1 v b.length (byt b)) (hcap : ∃ ad c, v = .slice ad b.length c ∧ b.length ≤ c) (w0 : World) (H : Hp w0 [C, D]) :
    Ret Try.prog 10 #[ptr x.d, .int .i64 at_, v] w0 fun u w' => ∃ C', u = .int .i64 (R.writeE x at_ b) ∧ RkC p (R.write x at_ b) C' ∧ Trs w0 w' [C, D] [C', D] := by
  obtain ⟨s, ws, ds⟩ := R
  obtain ⟨vw, vd, Cw, Cd, h1, h2, h3, h4, rfl⟩ := hC
  simp only at h1 h2 h3 h4 hx hws hwr hlf
  obtain ⟨A, B, rfl⟩ := List.append_of_mem hx
  have S := (rk_out (St.begin H)).front4 (A := [(p, pcl s vw vd)]) (by repeat (first | exact pk1 | apply pick_tail)) (B := Cw) (by repeat (first | exact pk1 | apply pick_tail)) (C := ch1 p x) (by repeat (first | exact pk1 | apply pick_tail)) (D := ch3 x) (by repeat (first | exact pk1 | apply pick_tail))
  have hxl := h3.2 x hx
  refine (dwrite_ret x.d p x.gn x.gp x.pl.length x.failed s vw vd x.now hxl.1 hxl.2 ws hws hwr hlf Cw h1 at_ ha v b D hD hcap _ (show D ∈ _ from (by first | exact List.Mem.tail _ (List.Mem.tail _ (List.mem_append_right _ (List.mem_singleton.2 rfl))))) w0 S.hp).mono fun u w' ⟨vw', Cw', hu, hB, hl, hT⟩ => ?_
  have S := S.all hT
  have hs : Same x { x with now := (wrS x.d x.pl.length at_ b s x.failed x.now ws).2.1 } := ⟨rfl, rfl, rfl, rfl, hl⟩
  have hfit := wrS_fit (d := x.d) (n := x.pl.length) (at_ := at_) (b := b) (fun w => (∃ y ∈ A ++ x :: B, y.d = w.d) ∧ ∀ y ∈ A ++ x :: B, y.d = w.d → 128 * w.at_ + 128 ≤ y.pl.length) (fun j b' hj => ⟨⟨x, hx, rfl⟩, fun y hy hyd => by rw [disk_one h3.1 hy hx hyd]; exact hj⟩) s x.failed x.now ws h4
  have hset : setD (A ++ x :: B) x.d (fun y => { y with now := (wrS x.d x.pl.length at_ b s x.failed x.now ws).2.1 }) = A ++ { x with now := (wrS x.d x.pl.length at_ b s x.failed x.now ws).2.1 } :: B := setD_at _ h3.1
  have S := rk_in (x := { x with now := (wrS x.d x.pl.length at_ b s x.failed x.now ws).2.1 }) (ws := (wrS x.d x.pl.length at_ b s x.failed x.now ws).2.2.1) (S.front5 (A := [(p, pcl (wrS x.d x.pl.length at_ b s x.failed x.now ws).1 vw' vd)]) (by repeat (first | exact pk1 | apply pick_tail)) (B := Cw') (by repeat (first | exact pk1 | apply pick_tail)) (C := ch1 p x) (by repeat (first | exact pk1 | apply pick_tail)) (D := ch2 x) (by repeat (first | exact pk1 | apply pick_tail)) (F := ch3 { x with now := (wrS x.d x.pl.length at_ b s x.failed x.now ws).2.1 }) (by repeat (first | exact pk1 | apply pick_tail)))
  refine ⟨_, hu, ⟨vw', vd, Cw', Cd, hB, ?_, ?_, ?_, rfl⟩, ?_⟩
  · simp only [Rk.write]; rw [hset]; simpa using h2
  · simp only [Rk.write]; rw [hset]; exact dk_swap h3 hs
  · simp only [Rk.write]; rw [hset]; exact wt_swap hfit hs
  · simp only [Rk.write]; rw [hset]; exact S.tr

theorem rk_read (p : Nat) (R : Rk) (C : Chunk) (hC : RkC p R C) (x : Dk) (hx : x ∈ R.ds) (at_ many : Int) (ha : -9223372036854775808 ≤ at_ ∧ at_ ≤ 9223372036854775807) (w0 : World) (H : Hp w0 [C]) :
    Ret Try.prog 12 #[ptr x.d, .int .i64 at_, .int .i64 many] w0 fun u w' => ∃ v Cb, u = .tuple #[v, .int .i64 (rdS R.pw x.failed x.now at_ many).1] ∧ Buf Cb 5 1 v (rdS R.pw x.failed x.now at_ many).2.length (byt (rdS R.pw x.failed x.now at_ many).2) ∧ Trs w0 w' [C] [Cb, C] := by
  obtain ⟨s, ws, ds⟩ := R
  obtain ⟨vw, vd, Cw, Cd, h1, h2, h3, h4, rfl⟩ := hC
  simp only at h1 h2 h3 h4 hx
  obtain ⟨A, B, rfl⟩ := List.append_of_mem hx
  have hxl := h3.2 x hx
  have S := (rk_out (St.begin H)).front3 (A := [(p, pcl s vw vd)]) (by repeat (first | exact pk1 | apply pick_tail)) (B := ch1 p x) (by repeat (first | exact pk1 | apply pick_tail)) (C := ch3 x) (by repeat (first | exact pk1 | apply pick_tail))
  have he : ch1 p x = [(x.d, dcl p x.gp x.gn x.now.length x.failed)] := by rw [hxl.1]
  rw [he] at S
  refine (dread_u x.d p x.gp x.gn x.failed s vw vd x.now (by omega) at_ many ha w0 (S.hp.sel (sel_cons (by repeat (first | exact pk1 | apply pick_tail)) (sel_cons (by repeat (first | exact pk1 | apply pick_tail)) (sel_cons (by repeat (first | exact pk1 | apply pick_tail)) (sel_nil _)))))).mono fun u w' ⟨v, Cb, hu, hB, hT⟩ => ?_
  have S := S.call4 (sel_cons (by repeat (first | exact pk1 | apply pick_tail)) (sel_cons (by repeat (first | exact pk1 | apply pick_tail)) (sel_cons (by repeat (first | exact pk1 | apply pick_tail)) (sel_nil _)))) hT
  rw [← he] at S
  have S := rk_in1 (ws := ws) (S.front6 (A := [(p, pcl s vw vd)]) (by repeat (first | exact pk1 | apply pick_tail)) (B := Cw) (by repeat (first | exact pk1 | apply pick_tail)) (C := ch1 p x) (by repeat (first | exact pk1 | apply pick_tail)) (D := ch2 x) (by repeat (first | exact pk1 | apply pick_tail)) (F := ch3 x) (by repeat (first | exact pk1 | apply pick_tail)) (G := Cd) (by repeat (first | exact pk1 | apply pick_tail)))
  exact ⟨v, Cb, hu, hB, S.perm2.tr⟩

theorem rk_flush (p : Nat) (R : Rk) (C : Chunk) (hC : RkC p R C) (x : Dk) (hx : x ∈ R.ds) (w0 : World) (H : Hp w0 [C]) :
    Ret Try.prog 11 #[ptr x.d] w0 fun u w' => u = .int .i64 (flE R.pw x.failed) ∧ ∃ C', RkC p (R.flush x) C' ∧ Trs w0 w' [C] [C'] := by
  obtain ⟨s, ws, ds⟩ := R
  obtain ⟨vw, vd, Cw, Cd, h1, h2, h3, h4, rfl⟩ := hC
  simp only at h1 h2 h3 h4 hx
  obtain ⟨A, B, rfl⟩ := List.append_of_mem hx
  have hxl := h3.2 x hx
  have S := rk_out (St.begin H)
  refine (flush_u x.d p x.gp x.gn x.pl.length x.failed s vw vd x.pl x.now rfl hxl.1 hxl.2 ws Cw h1 _ (rk_bks h4 fun c hc => List.Mem.tail _ (List.mem_append_left _ hc)) w0 S.hp).mono fun u w' ⟨hu, vw', Cw', hB, hT⟩ => ?_
  have S := S.all hT
  have hl : (flP s x.failed x.pl x.now).length = x.pl.length := by unfold flP; split; exact hxl.1; rfl
  have hs : Same x { x with pl := flP s x.failed x.pl x.now } := ⟨rfl, rfl, rfl, hl, hxl.1⟩
  have hset : setD (A ++ x :: B) x.d (fun y => { y with pl := flP s x.failed x.pl x.now }) = A ++ { x with pl := flP s x.failed x.pl x.now } :: B := setD_at _ h3.1
  have he : [(x.d, dcl p x.gp x.gn x.pl.length x.failed)] = ch1 p { x with pl := flP s x.failed x.pl x.now } := by simp only [ch1, hl]
  rw [he] at S
  have S := rk_in (x := { x with pl := flP s x.failed x.pl x.now }) (ws := flW x.d s x.failed ws) S
  refine ⟨hu, _, ⟨vw', vd, Cw', Cd, hB, ?_, ?_, ?_, rfl⟩, ?_⟩
  · simp only [Rk.flush]; rw [hset]; simpa using h2
  · simp only [Rk.flush]; rw [hset]; exact dk_swap h3 hs
  · simp only [Rk.flush]; rw [hset]; exact wt_swap (wt_sub h4 fun w => flW_mem) hs
  · simp only [Rk.flush]; rw [hset]; exact S.tr

theorem rk_fail (p : Nat) (R : Rk) (C : Chunk) (hC : RkC p R C) (x : Dk) (hx : x ∈ R.ds) (w0 : World) (H : Hp w0 [C]) :
    Ret Try.prog 19 #[ptr x.d] w0 fun _ w' => ∃ C', RkC p (R.fail x) C' ∧ Trs w0 w' [C] [C'] := by
  obtain ⟨s, ws, ds⟩ := R
  obtain ⟨vw, vd, Cw, Cd, h1, h2, h3, h4, rfl⟩ := hC
  simp only at h1 h2 h3 h4 hx
  obtain ⟨A, B, rfl⟩ := List.append_of_mem hx
  have hxl := h3.2 x hx
  have S := rk_out (St.begin H)
  refine (fail_ret x.d p x.gp x.gn x.pl.length x.failed s vw vd x.pl x.now rfl hxl.1 hxl.2 ws Cw h1 _ (rk_bks h4 fun c hc => List.Mem.tail _ (List.mem_append_left _ hc)) w0 S.hp).mono fun u w' ⟨vw', Cw', hB, hT⟩ => ?_
  have S := S.all hT
  have hs : Same x { x with now := x.pl, failed := true } := ⟨rfl, rfl, rfl, rfl, rfl⟩
  have hset : setD (A ++ x :: B) x.d (fun y => { y with now := x.pl, failed := true }) = A ++ { x with now := x.pl, failed := true } :: B := setD_at _ h3.1
  have S := rk_in (x := { x with now := x.pl, failed := true }) (ws := outW x.d ws) S
  refine ⟨_, ⟨vw', vd, Cw', Cd, hB, ?_, ?_, ?_, rfl⟩, ?_⟩
  · simp only [Rk.fail]; rw [hset]; simpa using h2
  · simp only [Rk.fail]; rw [hset]; exact dk_swap h3 hs
  · simp only [Rk.fail]; rw [hset]; exact wt_swap (wt_sub h4 fun w hw => (List.mem_filter.1 hw).1) hs
  · simp only [Rk.fail]; rw [hset]; exact S.tr

theorem rk_replace (p : Nat) (R : Rk) (C : Chunk) (hC : RkC p R C) (x : Dk) (hx : x ∈ R.ds) (w0 : World) (H : Hp w0 [C]) :
    Ret Try.prog 20 #[ptr x.d] w0 fun _ w' => ∃ C', RkC p (R.replace x) C' ∧ Trs w0 w' [C] [C'] := by
  obtain ⟨s, ws, ds⟩ := R
  obtain ⟨vw, vd, Cw, Cd, h1, h2, h3, h4, rfl⟩ := hC
  simp only at h1 h2 h3 h4 hx
  obtain ⟨A, B, rfl⟩ := List.append_of_mem hx
  have hxl := h3.2 x hx
  have S := rk_out (St.begin H)
  refine (replace_ret x.d p x.gp x.gn x.pl.length x.failed s vw vd x.pl x.now rfl hxl.1 hxl.2 ws Cw h1 _ (rk_bks h4 fun c hc => List.Mem.tail _ (List.mem_append_left _ hc)) w0 S.hp).mono fun u w' ⟨vw', Cw', hB, hT⟩ => ?_
  have S := S.all hT
  have hl : (List.replicate x.pl.length (0 : UInt8)).length = x.pl.length := List.length_replicate
  have hs : Same x { x with pl := List.replicate x.pl.length 0, now := List.replicate x.pl.length 0, failed := false } := ⟨rfl, rfl, rfl, hl, hl⟩
  have hset : setD (A ++ x :: B) x.d (fun y => { y with pl := List.replicate x.pl.length 0, now := List.replicate x.pl.length 0, failed := false }) = A ++ { x with pl := List.replicate x.pl.length 0, now := List.replicate x.pl.length 0, failed := false } :: B := setD_at _ h3.1
  have he : [(x.d, dcl p x.gp x.gn x.pl.length false)] = ch1 p { x with pl := List.replicate x.pl.length 0, now := List.replicate x.pl.length 0, failed := false } := by simp only [ch1, hl]
  rw [he] at S
  have S := rk_in (x := { x with pl := List.replicate x.pl.length 0, now := List.replicate x.pl.length 0, failed := false }) (ws := outW x.d ws) S
  refine ⟨_, ⟨vw', vd, Cw', Cd, hB, ?_, ?_, ?_, rfl⟩, ?_⟩
  · simp only [Rk.replace]; rw [hset]; simpa using h2
  · simp only [Rk.replace]; rw [hset]; exact dk_swap h3 hs
  · simp only [Rk.replace]; rw [hset]; exact wt_swap (wt_sub h4 fun w hw => (List.mem_filter.1 hw).1) hs
  · simp only [Rk.replace]; rw [hset]; exact S.tr

theorem rk_corrupt (p : Nat) (R : Rk) (C : Chunk) (hC : RkC p R C) (x : Dk) (hx : x ∈ R.ds) (at_ : Int) (v : Value) (mask : List UInt8) (D : Chunk) (hD : Rd D 1 v mask.length (byt mask)) (w0 : World) (H : Hp w0 [C, D]) :
    Ret Try.prog 38 #[ptr x.d, .int .i64 at_, v] w0 fun u w' => u = .int .i64 (coE x.failed x.pl.length at_ mask) ∧ ∃ C', RkC p (R.corrupt x at_ mask) C' ∧ Trs w0 w' [C, D] [C', D] := by
  obtain ⟨s, ws, ds⟩ := R
  obtain ⟨vw, vd, Cw, Cd, h1, h2, h3, h4, rfl⟩ := hC
  simp only at h1 h2 h3 h4 hx
  obtain ⟨A, B, rfl⟩ := List.append_of_mem hx
  have hxl := h3.2 x hx
  have S := rk_out (St.begin H)
  refine (corrupt_ret x.d p x.gp x.gn x.pl.length x.failed s vw vd x.pl x.now rfl hxl.1 hxl.2 ws Cw h1 at_ v mask D hD _ (List.Mem.tail _ (List.mem_append_right _ (List.mem_singleton.2 rfl))) (rk_bks h4 fun c hc => List.Mem.tail _ (List.mem_append_left _ hc)) w0 S.hp).mono fun u w' ⟨hu, Cw', hB, hT⟩ => ?_
  have S := S.all hT
  have hl : (coB x.failed x.pl.length at_ mask x.pl).length = x.pl.length := coB_length rfl
  have hl2 : (coB x.failed x.pl.length at_ mask x.now).length = x.pl.length := coB_length hxl.1
  have hs : Same x { x with pl := coB x.failed x.pl.length at_ mask x.pl, now := coB x.failed x.pl.length at_ mask x.now } := ⟨rfl, rfl, rfl, hl, hl2⟩
  have hset : setD (A ++ x :: B) x.d (fun y => { y with pl := coB x.failed x.pl.length at_ mask x.pl, now := coB x.failed x.pl.length at_ mask x.now }) = A ++ { x with pl := coB x.failed x.pl.length at_ mask x.pl, now := coB x.failed x.pl.length at_ mask x.now } :: B := setD_at _ h3.1
  have he : [(x.d, dcl p x.gp x.gn x.pl.length x.failed)] = ch1 p { x with pl := coB x.failed x.pl.length at_ mask x.pl, now := coB x.failed x.pl.length at_ mask x.now } := by simp only [ch1, hl]
  rw [he] at S
  have S := rk_in (x := { x with pl := coB x.failed x.pl.length at_ mask x.pl, now := coB x.failed x.pl.length at_ mask x.now }) (ws := coWs x.d x.failed x.pl.length at_ mask ws) S
  have h4' : WtOk (coWs x.d x.failed x.pl.length at_ mask ws) (A ++ x :: B) := fun w hw => by
    obtain ⟨w1, q1, q2, q3⟩ := coWs_mem hw
    rw [← q2, ← q3]; exact h4 w1 q1
  refine ⟨hu, _, ⟨vw, vd, Cw', Cd, ?_, ?_, ?_, ?_, rfl⟩, ?_⟩
  · simp only [Rk.corrupt]; rw [coWs_length]; exact hB
  · simp only [Rk.corrupt]; rw [hset]; simpa using h2
  · simp only [Rk.corrupt]; rw [hset]; exact dk_swap h3 hs
  · simp only [Rk.corrupt]; rw [hset]; exact wt_swap h4' hs
  · simp only [Rk.corrupt]; rw [hset]; exact S.tr

theorem rk_up (p : Nat) (R : Rk) (C : Chunk) (hC : RkC p R C) (v : Value) (st : List Bool) (O : Chunk) (hO : Rd O 1 v st.length (st.map Value.bool)) (w0 : World) (H : Hp w0 [C, O]) :
    Ret Try.prog 14 #[ptr p, v] w0 fun _ w' => ∃ C', RkC p (R.up st) C' ∧ Trs w0 w' [C, O] [C', O] := by
  obtain ⟨s, ws, ds⟩ := R
  obtain ⟨vw, vd, Cw, Cd, h1, h2, h3, h4, rfl⟩ := hC
  simp only at h1 h2 h3 h4
  have S : St w0 _ w0 ([(p, pcl s vw vd)] :: Cw :: Cd :: (chs p ds ++ [O])) := (St.begin H).openF
  refine (up_ret p s vw vd ws Cw h1 ds Cd h2 h3 h4 v st O hO [O] (List.mem_singleton.2 rfl) w0 S.hp).mono fun u w' hT => ?_
  have S := S.all hT
  have S := S.addNil.front3 (A := [(p, _)]) (by repeat (first | exact pk1 | apply pick_tail)) (B := []) (by repeat (first | exact pk1 | apply pick_tail)) (C := Cd) (by repeat (first | exact pk1 | apply pick_tail))
  have S := St.closeF (Ms := RkL p (Rk.up ⟨s, ws, ds⟩ st) (.slice none 0 0) vd [] Cd) S
  have hk : ∀ (ws : List Wt) (st : List Bool) (es : List Dk), WtOk ws es → (upW ws st es).map Dk.key = es.map Dk.key := by
    intro ws
    induction ws with
    | nil => intro st es _; rfl
    | cons w r ih =>
      intro st es h
      rw [upW]
      have hw := h w (List.mem_cons_self ..)
      split
      · have hp := putD_key (w := w) hw.2
        rw [ih _ _ (key_wt hp (wt_sub h fun z hz => List.mem_cons_of_mem _ hz)), hp]
      · exact ih _ _ (wt_sub h fun z hz => List.mem_cons_of_mem _ hz)
  have hkk := hk ws st ds h4
  have hok := key_ok hkk h3
  have hd : ((upW ws st ds).map Dk.settle).map Dk.d = ds.map Dk.d := by rw [List.map_map, ← key_d hkk]; rfl
  refine ⟨_, ⟨_, vd, [], Cd, Buf.nil _ _, ?_, ⟨by show (((upW ws st ds).map Dk.settle).map Dk.d).Nodup; rw [hd]; exact h3.1, fun x hx => ?_⟩, fun w hw => by simp [Rk.up] at hw, rfl⟩, S.tr⟩
  · have e : ((upW ws st ds).map Dk.settle).map (fun x => ptr x.d) = ds.map fun x => ptr x.d := by
      have := congrArg (List.map fun d => ptr d) hd
      simpa [List.map_map, Function.comp_def] using this
    have e2 : ((upW ws st ds).map Dk.settle).length = ds.length := by have := congrArg List.length hd; simpa using this
    show Buf Cd _ 1 vd ((upW ws st ds).map Dk.settle).length (((upW ws st ds).map Dk.settle).map fun x => ptr x.d)
    rw [e, e2]; exact h2
  · obtain ⟨y, hy, rfl⟩ := List.mem_map.1 hx
    exact ⟨rfl, (hok.2 y hy).2⟩

section
variable {w0 w : World} {As Ls : List Chunk} {p : Nat} {R : Rk} {vw vd : Value} {Cw Cd : Chunk}
theorem rk_power (S : St w0 As w ((RkL p R vw vd Cw Cd).flatten :: Ls)) : St w0 As w ([(p, pcl R.pw vw vd)] :: Cw :: Cd :: (chs p R.ds ++ Ls)) := S.openF
theorem rk_close (S : St w0 As w ([(p, pcl R.pw vw vd)] :: Cw :: Cd :: (chs p R.ds ++ Ls))) : St w0 As w ((RkL p R vw vd Cw Cd).flatten :: Ls) := St.closeF (Ms := RkL p R vw vd Cw Cd) S
end
theorem rk_on (p : Nat) (R : Rk) (C : Chunk) (hC : RkC p R C) (w0 : World) (H : Hp w0 [C]) : Ret Try.prog 15 #[ptr p] w0 fun u w' => u = .bool (!R.pw.off) ∧ Trs w0 w' [C] [C] := by
  obtain ⟨vw, vd, Cw, Cd, h1, h2, h3, h4, rfl⟩ := hC
  have S := rk_power (St.begin H)
  refine (on_ret p R.pw vw vd w0 (S.hp.sel (sel_cons (by repeat (first | exact pk1 | apply pick_tail)) (sel_nil _)))).mono fun u w' ⟨hu, hT⟩ => ?_
  exact ⟨hu, (rk_close (S.call1 (sel_cons (by repeat (first | exact pk1 | apply pick_tail)) (sel_nil _)) hT)).tr⟩
theorem rk_writes (p : Nat) (R : Rk) (C : Chunk) (hC : RkC p R C) (w0 : World) (H : Hp w0 [C]) : Ret Try.prog 18 #[ptr p] w0 fun u w' => u = .int .i64 R.pw.wr ∧ Trs w0 w' [C] [C] := by
  obtain ⟨vw, vd, Cw, Cd, h1, h2, h3, h4, rfl⟩ := hC
  have S := rk_power (St.begin H)
  refine (writes_ret p R.pw vw vd w0 (S.hp.sel (sel_cons (by repeat (first | exact pk1 | apply pick_tail)) (sel_nil _)))).mono fun u w' ⟨hu, hT⟩ => ?_
  exact ⟨hu, (rk_close (S.call1 (sel_cons (by repeat (first | exact pk1 | apply pick_tail)) (sel_nil _)) hT)).tr⟩
theorem rk_waiting (p : Nat) (R : Rk) (C : Chunk) (hC : RkC p R C) (w0 : World) (H : Hp w0 [C]) : Ret Try.prog 13 #[ptr p] w0 fun u w' => u = .int .i64 R.ws.length ∧ Trs w0 w' [C] [C] := by
  obtain ⟨vw, vd, Cw, Cd, h1, h2, h3, h4, rfl⟩ := hC
  obtain ⟨ad, c, rfl⟩ := h1.slice
  have S := rk_power (St.begin H)
  refine (waiting_ret p R.pw ad R.ws.length c vd w0 (S.hp.sel (sel_cons (by repeat (first | exact pk1 | apply pick_tail)) (sel_nil _)))).mono fun u w' ⟨hu, hT⟩ => ?_
  exact ⟨hu, (rk_close (S.call1 (sel_cons (by repeat (first | exact pk1 | apply pick_tail)) (sel_nil _)) hT)).tr⟩
theorem rk_cut (p : Nat) (R : Rk) (C : Chunk) (hC : RkC p R C) (k : Int) (w0 : World) (H : Hp w0 [C]) : Ret Try.prog 17 #[ptr p, .int .i64 k] w0 fun _ w' => ∃ C', RkC p (R.cut k) C' ∧ Trs w0 w' [C] [C'] := by
  obtain ⟨vw, vd, Cw, Cd, h1, h2, h3, h4, rfl⟩ := hC
  have S := rk_power (St.begin H)
  refine (cut_ret p R.pw vw vd k w0 (S.hp.sel (sel_cons (by repeat (first | exact pk1 | apply pick_tail)) (sel_nil _)))).mono fun u w' hT => ?_
  exact ⟨_, ⟨vw, vd, Cw, Cd, h1, h2, h3, h4, rfl⟩, (rk_close (R := R.cut k) (S.call1 (sel_cons (by repeat (first | exact pk1 | apply pick_tail)) (sel_nil _)) hT)).tr⟩
theorem rk_sectors (p : Nat) (R : Rk) (C : Chunk) (hC : RkC p R C) (x : Dk) (hx : x ∈ R.ds) (w0 : World) (H : Hp w0 [C]) : Ret Try.prog 25 #[ptr x.d] w0 fun u w' => u = .int .i64 (x.pl.length / 128 : Nat) ∧ Trs w0 w' [C] [C] := by
  obtain ⟨s, ws, ds⟩ := R
  obtain ⟨vw, vd, Cw, Cd, h1, h2, h3, h4, rfl⟩ := hC
  simp only at h1 h2 h3 h4 hx
  obtain ⟨A, B, rfl⟩ := List.append_of_mem hx
  have S := (rk_out (St.begin H)).front1 (A := ch1 p x) (by repeat (first | exact pk1 | apply pick_tail))
  refine (sectors_ret x.d p x.gp x.gn x.pl.length x.failed (h3.2 x hx).2 w0 (S.hp.sel (sel_cons (by repeat (first | exact pk1 | apply pick_tail)) (sel_nil _)))).mono fun u w' ⟨hu, hT⟩ => ?_
  exact ⟨hu, (rk_in (ws := ws) ((S.call1 (sel_cons (by repeat (first | exact pk1 | apply pick_tail)) (sel_nil _)) hT).front3 (A := [(p, _)]) (by repeat (first | exact pk1 | apply pick_tail)) (B := Cw) (by repeat (first | exact pk1 | apply pick_tail)) (C := ch1 p x) (by repeat (first | exact pk1 | apply pick_tail)))).tr⟩
theorem rk_failed (p : Nat) (R : Rk) (C : Chunk) (hC : RkC p R C) (x : Dk) (hx : x ∈ R.ds) (w0 : World) (H : Hp w0 [C]) : Ret Try.prog 41 #[ptr x.d] w0 fun u w' => u = .bool x.failed ∧ Trs w0 w' [C] [C] := by
  obtain ⟨s, ws, ds⟩ := R
  obtain ⟨vw, vd, Cw, Cd, h1, h2, h3, h4, rfl⟩ := hC
  simp only at h1 h2 h3 h4 hx
  obtain ⟨A, B, rfl⟩ := List.append_of_mem hx
  have S := (rk_out (St.begin H)).front1 (A := ch1 p x) (by repeat (first | exact pk1 | apply pick_tail))
  refine (failed_ret x.d p x.gp x.gn x.pl.length x.failed w0 (S.hp.sel (sel_cons (by repeat (first | exact pk1 | apply pick_tail)) (sel_nil _)))).mono fun u w' ⟨hu, hT⟩ => ?_
  exact ⟨hu, (rk_in (ws := ws) ((S.call1 (sel_cons (by repeat (first | exact pk1 | apply pick_tail)) (sel_nil _)) hT).front3 (A := [(p, _)]) (by repeat (first | exact pk1 | apply pick_tail)) (B := Cw) (by repeat (first | exact pk1 | apply pick_tail)) (C := ch1 p x) (by repeat (first | exact pk1 | apply pick_tail)))).tr⟩

theorem rk_new (p : Nat) (R : Rk) (C : Chunk) (hC : RkC p R C) (hl : R.ds.length ≤ 1000) (n : Nat) (h1 : 1 ≤ n) (h2 : n ≤ 8192) (w0 : World) (H : Hp w0 [C]) :
    Ret Try.prog 9 #[ptr p, .int .i64 n] w0 fun u w' => ∃ d gp gn C', u = .tuple #[ptr d, .int .i64 0] ∧ (∀ y ∈ R.ds, y.d ≠ d) ∧ RkC p (R.add d gp gn n) C' ∧ Trs w0 w' [C] [C'] := by
  obtain ⟨s, ws, ds⟩ := R
  obtain ⟨vw, vd, Cw, Cd, g1, g2, g3, g4, rfl⟩ := hC
  simp only at g1 g2 g3 g4 hl
  have S := (rk_power (St.begin H)).front2 (A := [(p, _)]) (by repeat (first | exact pk1 | apply pick_tail)) (B := Cd) (by repeat (first | exact pk1 | apply pick_tail))
  refine (dnew_ret p s vw vd ds.length _ Cd g2 hl n h1 h2 w0 (S.hp.sel (sel_cons (by repeat (first | exact pk1 | apply pick_tail)) (sel_cons (by repeat (first | exact pk1 | apply pick_tail)) (sel_nil _))))).mono fun u w' ⟨d, gp, gn, vd', Cd', hu, hB, hT⟩ => ?_
  have S := S.call (sel_cons (by repeat (first | exact pk1 | apply pick_tail)) (sel_cons (by repeat (first | exact pk1 | apply pick_tail)) (sel_nil _))) hT
  obtain ⟨x, hx⟩ : ∃ x : Dk, x = ⟨d, gp, gn, List.replicate (n * 128) 0, List.replicate (n * 128) 0, false⟩ := ⟨_, rfl⟩
  have hxl : x.pl.length = n * 128 := by rw [hx]; simp
  have he : [(d, dcl p gp gn (n * 128) false)] = ch1 p x := by rw [hx]; simp only [ch1, List.length_replicate]
  rw [he] at S
  have S : St w0 [(RkL p ⟨s, ws, ds⟩ vw vd Cw Cd).flatten] w' ([(p, pcl s vw vd')] :: Cd' :: ch1 p x :: ch2 x :: ch3 x :: Cw :: (chs p ds ++ [])) := by subst hx; exact S
  have hfr : ∀ y ∈ ds, y.d ≠ d := fun y hy hyd => by
    have hS := (S.front1 (A := ch1 p x) (by repeat (first | exact pk1 | apply pick_tail))).hp
    have hnd := hS.1
    simp only [List.flatten_cons, List.map_append, List.nodup_append] at hnd
    refine hnd.2.2 d (by rw [hx]; exact List.mem_singleton.2 rfl) d ?_ rfl
    simp only [List.mem_append]
    refine .inr (.inr (.inr (.inr (.inr ?_))))
    rw [← hyd]
    refine List.mem_map.2 ⟨(y.d, _), List.mem_flatten.2 ⟨ch1 p y, List.mem_append_left _ (List.mem_flatMap.2 ⟨y, hy, List.mem_cons_self ..⟩), List.mem_singleton.2 rfl⟩, rfl⟩
  have S := S.front6 (A := ch1 p x) (by repeat (first | exact pk1 | apply pick_tail)) (B := ch2 x) (by repeat (first | exact pk1 | apply pick_tail)) (C := ch3 x) (by repeat (first | exact pk1 | apply pick_tail)) (D := [(p, _)]) (by repeat (first | exact pk1 | apply pick_tail)) (F := Cw) (by repeat (first | exact pk1 | apply pick_tail)) (G := Cd') (by repeat (first | exact pk1 | apply pick_tail))
  have hpm := chs_open p [(p, pcl s vw vd')] Cw Cd' ds [] x []
  rw [List.append_nil ds] at hpm
  have S := rk_close (R := ⟨s, ws, ds ++ [x]⟩) (S.perm hpm.symm)
  subst hx
  refine ⟨d, gp, gn, _, hu, hfr, ⟨vw, vd', Cw, Cd', g1, ?_, ⟨?_, ?_⟩, ?_, rfl⟩, S.tr⟩
  · simp only [Rk.add, List.length_append, List.length_singleton, List.map_append, List.map_cons, List.map_nil]; exact hB
  · simp only [Rk.add, List.map_append, List.map_cons, List.map_nil]
    rw [List.nodup_append]
    refine ⟨g3.1, by simp, fun a ha b hb => ?_⟩
    obtain ⟨y, hy, rfl⟩ := List.mem_map.1 ha
    rw [List.mem_singleton.1 hb]; exact hfr y hy
  · intro y hy
    rcases List.mem_append.1 hy with hy | hy
    · exact g3.2 y hy
    · rw [List.mem_singleton.1 hy]; simp only [List.length_replicate]; exact ⟨trivial, by omega⟩
  · intro w hw
    obtain ⟨⟨y, q1, q2⟩, q3⟩ := g4 w hw
    refine ⟨⟨y, List.mem_append_left _ q1, q2⟩, fun z hz hzd => ?_⟩
    rcases List.mem_append.1 hz with hz | hz
    · exact q3 z hz hzd
    · rw [List.mem_singleton.1 hz] at hzd; exact absurd (q2.trans hzd.symm) (hfr y q1)
end Go.Proofs.Ytpppaohhnlgfoaa
