/-
  Texts put together (4).
-/
import Derived.Test.YtidhehcjafoneaaGreatDoorZMirrorAlone3
namespace Go.Sl
def upS (d : Nat) : List Wt → List Bool → List UInt8 → List UInt8
  | [], _, pl => pl
  | w :: ws, st, pl => upS d ws st.tail (if st.head? = some true ∧ w.d = d then setS pl w.at_ w.b else pl)
theorem upW_map : ∀ (ws : List Wt) (st : List Bool) (ds : List Dk), upW ws st ds = ds.map fun x => { x with pl := upS x.d ws st x.pl }
  | [], st, ds => by
    conv => lhs; rw [upW, ← List.map_id ds]
    rfl
  | w :: ws, st, ds => by
    rw [upW, upW_map ws st.tail]
    by_cases h : st.head? = some true
    · rw [if_pos h, putD, List.map_map]
      refine List.map_congr_left fun x _ => ?_
      simp only [Function.comp]
      by_cases hd : x.d = w.d
      · simp only [if_pos hd, upS]; rw [if_pos ⟨h, hd.symm⟩]
      · simp only [if_neg hd, upS]; rw [if_neg (fun q => hd q.2.symm)]
    · rw [if_neg h]
      refine List.map_congr_left fun x _ => ?_
      simp only [upS]; rw [if_neg (fun q => h q.1)]
theorem upS_none (d : Nat) : ∀ (ws : List Wt) (pl : List UInt8), upS d ws [] pl = pl
  | [], pl => rfl
  | w :: ws, pl => by rw [upS, if_neg (by simp)]; exact upS_none d ws pl
theorem wrN_big {d a : Nat} {b : List UInt8} : ∀ (k i : Nat) (s : Pw) (nw : List UInt8) (ws : List Wt), s.left < 0 ∨ (k : Int) ≤ s.left →
    (wrN d a b k i s nw ws).2.2.2 = 0 ∧ (wrN d a b k i s nw ws).1.off = s.off ∧ (wrN d a b k i s nw ws).1.wr = s.wr + k ∧ (wrN d a b k i s nw ws).2.2.1.length = ws.length + k ∧ (s.left < 0 → (wrN d a b k i s nw ws).1.left = s.left)
  | 0, i, s, nw, ws, _ => by simp [wrN]
  | k + 1, i, s, nw, ws, h => by
    rw [wrN, if_neg (by omega)]
    have := wrN_big (d := d) (a := a) (b := b) k (i + 1) { s with left := if 0 < s.left then s.left - 1 else s.left, wr := s.wr + 1 } (setS nw (a + i) (secB b i)) (ws ++ [mkW d (a + i) (secB b i)]) (by simp only; split <;> omega)
    obtain ⟨h1, h2, h3, h4, h5⟩ := this
    refine ⟨h1, h2, by rw [h3]; simp only; omega, by rw [h4, List.length_append, List.length_singleton]; omega, fun hn => ?_⟩
    rw [h5 (by simp only; rw [if_neg (by omega)]; exact hn)]; simp only; rw [if_neg (by omega)]
theorem wrN_fit {d a n : Nat} {b : List UInt8} (P : Wt → Prop) (hP : ∀ j b', 128 * j + 128 ≤ n → P (mkW d j b')) : ∀ (k i : Nat) (s : Pw) (nw : List UInt8) (ws : List Wt), 128 * (a + i + k) ≤ n → (∀ w ∈ ws, P w) → ∀ w ∈ (wrN d a b k i s nw ws).2.2.1, P w
  | 0, i, s, nw, ws, _, h => by simpa [wrN] using h
  | k + 1, i, s, nw, ws, hk, h => by
    rw [wrN]
    split
    · exact h
    · refine wrN_fit P hP k (i + 1) _ _ _ (by omega) fun w hw => ?_
      rcases List.mem_append.1 hw with h1 | h1
      · exact h w h1
      · rw [List.mem_singleton.1 h1]; exact hP _ _ (by omega)
theorem wrS_fit {d n : Nat} {at_ : Int} {b : List UInt8} (P : Wt → Prop) (hP : ∀ j b', 128 * j + 128 ≤ n → P (mkW d j b')) (s : Pw) (f : Bool) (nw : List UInt8) (ws : List Wt) (h : ∀ w ∈ ws, P w) : ∀ w ∈ (wrS d n at_ b s f nw ws).2.2.1, P w := by
  unfold wrS
  split; exact h
  split; exact h
  split; exact h
  rename_i hm
  have hm : zEu n at_ b := Decidable.byContradiction hm
  obtain ⟨h1, h2, h3, h4⟩ := hm
  exact wrN_fit P hP _ _ _ _ _ (by omega) h
end Go.Sl
namespace Go.Proofs.YtidhehcjafoneaaGreatDoor
open Go.Sl
set_option maxRecDepth 10000
theorem fail_ret (d p gp gn n : Nat) (f : Bool) (s : Pw) (vw vd : Value) (pl nw : List UInt8) (hpl : pl.length = n) (hnw : nw.length = n) (hn : n ≤ 1048576) (ws : List Wt) (Cw : zAs) (hCw : Buf Cw 103 130 vw ws.length (wl ws)) (As : List zAs) (hB : ∀ x ∈ ws, x.d = d ∨ Bks As x.d) (w0 : World)
    (H : Hp w0 ([(p, pcl s vw vd)] :: Cw :: [(d, dcl p gp gn n f)] :: [(gp, cel (byt pl) 5)] :: [(gn, cel (byt nw) 5)] :: As)) :
    Ret Tryz.prog 9 #[ptr d] w0 fun _ w' => ∃ vw' Cw', Buf Cw' 103 130 vw' (outW d ws).length (wl (outW d ws)) ∧
        Trs w0 w' ([(p, pcl s vw vd)] :: Cw :: [(d, dcl p gp gn n f)] :: [(gp, cel (byt pl) 5)] :: [(gn, cel (byt nw) 5)] :: As) ([(p, pcl s vw' vd)] :: Cw' :: [(d, dcl p gp gn n true)] :: [(gp, cel (byt pl) 5)] :: [(gn, cel (byt pl) 5)] :: As) := by
  have S := St.begin H
  refine zDc 20 Tryz.func9 rfl rfl (by decide) ?_; intro a E
  refine wp_seq_k ?_; intro K hK
  refine zAc ?_
  refine zp E (zAe E rfl rfl) ?_; clear E a; intro a E
  refine zp E (zAl E rfl rfl) ?_; clear E a; intro a E
  refine zp E (by first | exact zAf (q := 0) E rfl rfl rfl | exact zAi (q := 0) E rfl rfl rfl) ?_; clear E a; intro a E
  refine zp E (by first | exact zAn E rfl rfl rfl (S.get (by repeat (first | exact pk1 | apply zAa))) rfl | exact zAj E rfl rfl rfl (by assumption)) ?_; clear E a; intro a E
  refine zp E (zAe E rfl rfl) ?_; clear E a; intro a E
  refine zAr E rfl rfl (by decide) rfl Tryz.func38 rfl (by kernel_rfl) rfl (drop_ret p s vw vd ws Cw hCw d ([(d, dcl p gp gn n f)] :: [(gp, cel (byt pl) 5)] :: [(gn, cel (byt nw) 5)] :: As) (fun x hx => (hB x hx).imp_right fun h => ⟨h.sub (fun _ h => by repeat (first | exact h | apply List.Mem.tail)), ⟨_, List.Mem.head _, _, _, List.Mem.head _⟩⟩) _ S.hp) ?_
  rintro v7 w ⟨vw', Cw', hCw', hT⟩; clear E a; intro a E
  have S := S.all hT
  have hR := zCr (g := gp) (T := 5) (xs := byt pl) (s := 1) (m := n) (by rw [zBm]; omega) (zDv pl) (by omega) n
  refine wpList_nil ?_
  refine zAh hK ?_; clear hK; clear K
  refine wp_seq_k ?_; intro K hK
  refine zBo S (.ofL [(0, 0), (1, 0), (2, 0), (3, 0), (4, 0), (5, 0), (6, 0), (7, 0), (8, 3)]) (by kernel_rfl) (by kernel_rfl) ?_
  clear S; intro w S
  refine zm E rfl (fun w h => zAe E rfl rfl) ?_; clear E a; intro a E
  refine zm E rfl (fun w h => zAl E rfl rfl) ?_; clear E a; intro a E
  refine zm E rfl (fun w h => by first | exact zAf (q := 2) E rfl rfl rfl | exact zAi (q := 2) E rfl rfl rfl) ?_; clear E a; intro a E
  refine zm E rfl (fun w h => by first | exact zAn E rfl rfl rfl (h.one (by repeat (first | exact mm1 | assumption | apply List.Mem.tail))) rfl | exact zAj E rfl rfl rfl (by assumption)) ?_; clear E a; intro a E
  refine zm E rfl (fun w h => zAe E rfl rfl) ?_; clear E a; intro a E
  refine zm E rfl (fun w h => zAl E rfl rfl) ?_; clear E a; intro a E
  refine zm E rfl (fun w h => by first | exact zAf (q := 1) E rfl rfl rfl | exact zAi (q := 1) E rfl rfl rfl) ?_; clear E a; intro a E
  refine zm E rfl (fun w h => by first | exact zAn E rfl rfl rfl (h.one (by repeat (first | exact mm1 | assumption | apply List.Mem.tail))) rfl | exact zAj E rfl rfl rfl (by assumption)) ?_; clear E a; intro a E
  refine zCq rfl rfl (zGk E S rfl rfl (by decide) rfl rfl (by repeat (first | exact pk1 | apply zAa)) (hR.copySrc (S.stab.at (by repeat (first | exact mm1 | assumption | apply List.Mem.tail))) rfl) rfl rfl (by rw [zBm]; omega) ?_); clear E S a; intro a w E S
  rw [zIo (by rw [zBm]; exact hnw) (by rw [zBm]; exact hpl)] at S
  refine zBs ?_
  refine zAh hK ?_; clear hK; clear K
  refine zAc ?_
  refine zp E (zAe E rfl rfl) ?_; clear E a; intro a E
  refine zp E (zAl E rfl rfl) ?_; clear E a; intro a E
  refine zp E (by first | exact zAf (q := 3) E rfl rfl rfl | exact zAi (q := 3) E rfl rfl rfl) ?_; clear E a; intro a E
  refine zAo rfl (zBg E S rfl rfl rfl rfl rfl rfl (by repeat (first | exact pk1 | apply zAa)) (by first | exact Nat.le_of_ble_eq_true rfl | (simp; done) | (simp; omega)) ?_); clear E S a; intro a w E S; try dsimp only [List.set] at S
  refine wpList_nil ?_
  refine end0 E rfl ?_
  exact ⟨_, rfl, vw', Cw', hCw', (S.front5 (A := [(p, _)]) (by repeat (first | exact pk1 | apply zAa)) (B := Cw') (by repeat (first | exact pk1 | apply zAa)) (C := [(d, _)]) (by repeat (first | exact pk1 | apply zAa)) (D := [(gp, _)]) (by repeat (first | exact pk1 | apply zAa)) (F := [(gn, _)]) (by repeat (first | exact pk1 | apply zAa))).tr⟩
end Go.Proofs.YtidhehcjafoneaaGreatDoor
namespace Go.Sl
def putS (l : List UInt8) (w : Wt) : List UInt8 := setS l w.at_ w.b
theorem zKc {l b : List UInt8} {i : Nat} (h : 128 * i ≤ l.length) (hb : b.length = 128) : secB (setS l i b) i = b := by
  have h1 : (l.take (128 * i)).length = 128 * i := by rw [List.length_take]; omega
  rw [secB, setS, List.append_assoc, List.drop_left' h1, List.take_left' hb]
theorem zHa {l b : List UInt8} {i s : Nat} (h : 128 * i + 128 ≤ l.length) (hb : b.length = 128) (hne : i ≠ s) : secB (setS l i b) s = secB l s := by
  have hlen : (setS l i b).length = l.length := zEh h hb
  apply List.ext_getElem?
  intro j
  rw [secB, secB, List.getElem?_take, List.getElem?_take]
  split
  · rw [List.getElem?_drop, List.getElem?_drop, setS]
    have h1 : (l.take (128 * i)).length = 128 * i := by rw [List.length_take]; omega
    rcases Nat.lt_or_ge s i with c | c
    · rw [List.append_assoc, List.getElem?_append_left (by omega), List.getElem?_take_of_lt (by omega)]
    · rw [List.getElem?_append_right (by rw [List.length_append, h1, hb]; omega), List.length_append, h1, hb, List.getElem?_drop, show 128 * i + 128 + (128 * s + j - (128 * i + 128)) = 128 * s + j by omega]
  · rfl
theorem outW_self {d : Nat} {ws : List Wt} (h : ∀ w ∈ ws, w.d = d) : outW d ws = [] := by
  rw [outW, List.filter_eq_nil_iff]
  intro w hw; simp [h w hw]
end Go.Sl
namespace Go.Sl
theorem Trs.nilR {w w' : World} {As Bs : List zAs} (h : Trs w w' As Bs) : Trs w w' As ([] :: Bs) := by unfold Trs at *; simpa using h
def rdMay (n : Nat) (at_ many : Int) : Prop := 0 ≤ at_ ∧ 0 ≤ many ∧ at_ ≤ (n / 128 : Nat) ∧ many ≤ (n / 128 : Nat) - at_
instance (n : Nat) (at_ many : Int) : Decidable (rdMay n at_ many) := by unfold rdMay; infer_instance
def rdS (s : Pw) (f : Bool) (nw : List UInt8) (at_ many : Int) : Int × List UInt8 :=
  if s.off then (5, []) else if f then (30, []) else if ¬ rdMay nw.length at_ many then (1, []) else (0, (nw.drop (at_.toNat * 128)).take (many.toNat * 128))
def flE (s : Pw) (f : Bool) : Int := if s.off then 5 else if f then 30 else 0
def flW (d : Nat) (s : Pw) (f : Bool) (ws : List Wt) : List Wt := if flE s f = 0 then outW d ws else ws
def flP (s : Pw) (f : Bool) (pl nw : List UInt8) : List UInt8 := if flE s f = 0 then nw else pl
theorem flW_mem {d : Nat} {s : Pw} {f : Bool} {ws : List Wt} {x : Wt} (h : x ∈ flW d s f ws) : x ∈ ws := by
  unfold flW at h
  split at h
  · exact (List.mem_filter.1 h).1
  · exact h
end Go.Sl
namespace Go.Proofs.YtidhehcjafoneaaGreatDoor
open Go.Sl
set_option maxRecDepth 10000
theorem dread_u (d p gp gn : Nat) (f : Bool) (s : Pw) (vw vd : Value) (nw : List UInt8) (hn : nw.length ≤ 1048576) (at_ many : Int) (ha : -9223372036854775808 ≤ at_ ∧ at_ ≤ 9223372036854775807) (w0 : World)
    (H : Hp w0 [[(p, pcl s vw vd)], [(d, dcl p gp gn nw.length f)], [(gn, cel (byt nw) 5)]]) :
    Ret Tryz.prog 45 #[ptr d, .int .i64 at_, .int .i64 many] w0 fun u w' => ∃ v C, u = .tuple #[v, .int .i64 (rdS s f nw at_ many).1] ∧ Buf C 5 1 v (rdS s f nw at_ many).2.length (byt (rdS s f nw at_ many).2) ∧
        Trs w0 w' [[(p, pcl s vw vd)], [(d, dcl p gp gn nw.length f)], [(gn, cel (byt nw) 5)]] [C, [(p, pcl s vw vd)], [(d, dcl p gp gn nw.length f)], [(gn, cel (byt nw) 5)]] := by
  refine (dread_ret d p gp gn f s vw vd nw hn at_ many ha w0 H).mono fun u w' h => ?_
  rcases h with ⟨h1, rfl, hT⟩ | ⟨h1, h2, rfl, hT⟩ | ⟨h1, h2, h3, rfl, hT⟩ | ⟨h1, h2, h3, g, rfl, hT⟩
  · have he : rdS s f nw at_ many = (5, []) := by unfold rdS; rw [if_pos h1]
    rw [he]; exact ⟨_, [], rfl, Buf.nil _ _, hT.nilR⟩
  · have he : rdS s f nw at_ many = (30, []) := by unfold rdS; rw [if_neg (by simp [h1]), if_pos h2]
    rw [he]; exact ⟨_, [], rfl, Buf.nil _ _, hT.nilR⟩
  · have he : rdS s f nw at_ many = (1, []) := by unfold rdS; rw [if_neg (by simp [h1]), if_neg (by simp [h2])]; exact if_pos h3
    rw [he]; exact ⟨_, [], rfl, Buf.nil _ _, hT.nilR⟩
  · have he : rdS s f nw at_ many = (0, (nw.drop (at_.toNat * 128)).take (many.toNat * 128)) := by unfold rdS; rw [if_neg (by simp [h1]), if_neg (by simp [h2])]; exact if_neg (fun q => q h3)
    rw [he]
    obtain ⟨h3a, h3b, h3c, h3d⟩ := h3
    have hl : ((nw.drop (at_.toNat * 128)).take (many.toNat * 128)).length = many.toNat * 128 := by rw [List.length_take, List.length_drop]; omega
    refine ⟨_, _, rfl, ?_, hT⟩
    have hb := zJx (g := g) (c := many.toNat * 128) (s := 1) (m := many.toNat * 128) (xs := byt ((nw.drop (at_.toNat * 128)).take (many.toNat * 128))) (r := []) (T := 5) (by rw [zBm, hl, Nat.mul_one]) (zDv _) (Nat.le_refl _) (by simp only [maxLen]; omega) (by rw [zBm, hl, List.length_nil]; omega)
    rw [List.append_nil] at hb
    rw [hl]; exact hb
theorem flush_u (d p gp gn n : Nat) (f : Bool) (s : Pw) (vw vd : Value) (pl nw : List UInt8) (hpl : pl.length = n) (hnw : nw.length = n) (hn : n ≤ 1048576) (ws : List Wt) (Cw : zAs) (hCw : Buf Cw 103 130 vw ws.length (wl ws)) (As : List zAs) (hB : ∀ x ∈ ws, x.d = d ∨ Bks As x.d) (w0 : World)
    (H : Hp w0 ([(p, pcl s vw vd)] :: Cw :: [(d, dcl p gp gn n f)] :: [(gp, cel (byt pl) 5)] :: [(gn, cel (byt nw) 5)] :: As)) :
    Ret Tryz.prog 58 #[ptr d] w0 fun u w' => u = .int .i64 (flE s f) ∧ ∃ vw' Cw', Buf Cw' 103 130 vw' (flW d s f ws).length (wl (flW d s f ws)) ∧
        Trs w0 w' ([(p, pcl s vw vd)] :: Cw :: [(d, dcl p gp gn n f)] :: [(gp, cel (byt pl) 5)] :: [(gn, cel (byt nw) 5)] :: As) ([(p, pcl s vw' vd)] :: Cw' :: [(d, dcl p gp gn n f)] :: [(gp, cel (byt (flP s f pl nw)) 5)] :: [(gn, cel (byt nw) 5)] :: As) := by
  refine (flush_ret d p gp gn n f s vw vd pl nw hpl hnw hn ws Cw hCw As hB w0 H).mono fun u w' h => ?_
  rcases h with ⟨h1, rfl, hT⟩ | ⟨h1, h2, rfl, vw', Cw', hCw', hT⟩
  · have he : flE s f = if s.off then 5 else 30 := by
      unfold flE; cases hs : s.off
      · rw [hs] at h1; have hf : f = true := by simpa using h1
        simp [hf]
      · simp
    have hne : flE s f ≠ 0 := by rw [he]; split <;> decide
    have hw : flW d s f ws = ws := if_neg hne
    have hp : flP s f pl nw = pl := if_neg hne
    rw [hw, hp]
    exact ⟨by rw [he], vw, Cw, hCw, hT⟩
  · have he : flE s f = 0 := by unfold flE; rw [if_neg (by simp [h1]), if_neg (by simp [h2])]
    have hw : flW d s f ws = outW d ws := if_pos he
    have hp : flP s f pl nw = nw := if_pos he
    rw [hw, hp, he]
    exact ⟨rfl, vw', Cw', hCw', hT⟩
end Go.Proofs.YtidhehcjafoneaaGreatDoor
namespace Go.Sl
section
variable {P : Program} {a : Act} {o : Oper} {n : Nat} {e : List (Nat × Value)} {ds : List Deferred} {x y : Operand} {w w0 : World} {As Ls Rs : List zAs} {K : Act → World → Prop} {Q : Exit → Act → World → Prop}
end
section
variable {w0 w w' : World} {As Ls Rs Bs Ms : List zAs} {A B C D : zAs}
theorem St.openF (S : St w0 As w (Ms.flatten :: Ls)) : St w0 As w (Ms ++ Ls) :=
  ⟨S.hp0, by have h := S.tr; unfold Trs at *; simpa [List.flatten_cons, List.flatten_append] using h⟩
theorem St.closeF (S : St w0 As w (Ms ++ Ls)) : St w0 As w (Ms.flatten :: Ls) :=
  ⟨S.hp0, by have h := S.tr; unfold Trs at *; simpa [List.flatten_cons, List.flatten_append] using h⟩
end
theorem St.cel {w0 w : World} {As Ls : List zAs} {b : Nat} {l l' : List Value} {T : TypeId} (S : St w0 As w ([(b, Sl.cel l T)] :: Ls)) (h : l = l') : St w0 As w ([(b, Sl.cel l' T)] :: Ls) := h ▸ S
def xorB : List UInt8 → List UInt8 → List UInt8
  | x :: xs, m :: ms => (x ^^^ m) :: xorB xs ms
  | [], _ => []
  | x :: xs, [] => x :: xs
theorem zDz : ∀ (xs ms : List UInt8), (xorB xs ms).length = xs.length
  | x :: xs, m :: ms => by simp [xorB, zDz xs ms]
  | [], ms => by cases ms <;> rfl
  | x :: xs, [] => rfl
theorem xorB_nil (xs : List UInt8) : xorB xs [] = xs := by cases xs <;> rfl
theorem zJj : ∀ (xs ms : List UInt8) (i : Nat) (x m : UInt8), xs[i]? = some x → ms[i]? = some m → (xorB xs ms)[i]? = some (x ^^^ m)
  | [], ms, i, x, m, h, _ => by simp at h
  | a :: xs, [], i, x, m, _, h => by simp at h
  | a :: xs, b :: ms, 0, x, m, h1, h2 => by simp at h1 h2; subst h1 h2; rfl
  | a :: xs, b :: ms, i + 1, x, m, h1, h2 => by simp at h1 h2; simp [xorB]; exact zJj xs ms i x m h1 h2
theorem zId : ∀ (xs ms : List UInt8) (i : Nat), ms.length ≤ i → (xorB xs ms)[i]? = xs[i]?
  | [], ms, i, h => by cases ms <;> rfl
  | a :: xs, [], i, _ => rfl
  | a :: xs, b :: ms, 0, h => by simp at h
  | a :: xs, b :: ms, i + 1, h => by simp [xorB]; exact zId xs ms i (by simpa using h)
theorem xorB_step {xs ms : List UInt8} {i : Nat} {x m : UInt8} (hx : xs[i]? = some x) (hm : ms[i]? = some m) : (xorB xs (ms.take i)).set i (x ^^^ m) = xorB xs (ms.take (i + 1)) := by
  have hi : i < ms.length := (List.getElem?_eq_some_iff.1 hm).1
  have hix : i < xs.length := (List.getElem?_eq_some_iff.1 hx).1
  apply List.ext_getElem?
  intro j
  rw [List.getElem?_set]
  by_cases hj : i = j
  · subst hj
    rw [if_pos rfl, if_pos (by rw [zDz]; exact hix)]
    exact (zJj xs _ i x m hx (by rw [List.getElem?_take_of_lt (by omega)]; exact hm)).symm
  · rw [if_neg hj]
    rcases Nat.lt_or_ge j i with c | c
    · rcases Nat.lt_or_ge j xs.length with d | d
      · rw [zJj xs (ms.take i) j xs[j] ms[j] (by simp) (by simp [c]), zJj xs (ms.take (i + 1)) j xs[j] ms[j] (by simp) (by rw [List.getElem?_take_of_lt (by omega)]; simp)]
      · rw [List.getElem?_eq_none (by rw [zDz]; exact d), List.getElem?_eq_none (by rw [zDz]; exact d)]
    · rw [zId _ _ _ (by rw [List.length_take]; omega), zId _ _ _ (by rw [List.length_take]; omega)]
theorem xor8 (x m : UInt8) : bits .xor .u8 (x.toNat : Int) (m.toNat : Int) = ((x ^^^ m).toNat : Int) := by
  have h2 : ∀ z : UInt8, (BitVec.ofInt 8 (z.toNat : Int)).toNat = z.toNat := fun z => by
    rw [BitVec.ofInt_natCast, BitVec.toNat_ofNat]; exact Nat.mod_eq_of_lt z.toNat_lt
  show IntKind.u8.wrap (((BitVec.ofInt 8 (x.toNat : Int) ^^^ BitVec.ofInt 8 (m.toNat : Int)).toNat : Nat) : Int) = _
  rw [BitVec.toNat_xor, h2, h2, ← UInt8.toNat_xor, IntKind.wrap_u8]
  have := (x ^^^ m).toNat_lt
  omega
end Go.Sl
namespace Go.Sl
theorem byt_set (l : List UInt8) (i : Nat) (x : UInt8) : (byt l).set i (.int .u8 x.toNat) = byt (l.set i x) := by simp [byt, List.map_set]
end Go.Sl
namespace Go.Proofs.YtidhehcjafoneaaGreatDoor
open Go.Sl
set_option maxRecDepth 10000
theorem turn_ret (g off m c : Nat) (T : TypeId) (pre post : List Value) (xs : List UInt8) (hpre : pre.length = off) (hxm : xs.length = m) (hb : m ≤ 4611686018427387904) (v : Value) (ms : List UInt8) (hms : ms.length ≤ m) (D : zAs) (hD : Rd D 1 v ms.length (byt ms)) (As : List zAs) (hDA : D ∈ As) (w0 : World)
    (H : Hp w0 ([(g, cel (pre ++ byt xs ++ post) T)] :: As)) :
    Ret Tryz.prog 40 #[.slice (some ⟨g, off, none⟩) m c, v] w0 fun _ w' => Trs w0 w' ([(g, cel (pre ++ byt xs ++ post) T)] :: As) ([(g, cel (pre ++ byt (xorB xs ms) ++ post) T)] :: As) := by
  have S := St.begin H
  obtain ⟨ad, cd, rfl⟩ := hD.slice
  have hm9 := hD.2.2.1
  simp only [maxLen] at hm9
  refine zCy 21 Tryz.func40 rfl rfl (by decide) ?_; intro a E
  refine wp_seq_k ?_; intro K hK
  refine zAc ?_
  refine zp E (zAe E rfl rfl) ?_; clear E a; intro a E
  refine zp E (by first | exact zCa E rfl rfl rfl | exact zBa E rfl rfl rfl | exact zAt E rfl rfl rfl) ?_; clear E a; intro a E
  refine zp E (zAe E rfl rfl) ?_; clear E a; intro a E
  refine wpList_nil ?_
  refine zAh hK ?_; clear hK; clear K
  refine wp_block ?_
  refine wp_loop_ghost (fun (m : Nat) (a : Act) (w' : World) => ∃ i : Nat, m = ms.length - i ∧ i ≤ ms.length ∧ St w0 ([(g, cel (pre ++ byt xs ++ post) T)] :: As) w' ([(g, cel (pre ++ byt (xorB xs (ms.take i)) ++ post) T)] :: As) ∧ Fr a 21 [(0, .slice (some ⟨g, off, none⟩) xs.length c), (6, .slice ad ms.length cd), (7, .int .i64 ms.length), (8, .int .i64 i)]) (ms.length - 0) ?_ ?_
  · subst hxm; exact ⟨0, rfl, by omega, by rw [List.take_zero, xorB_nil]; exact S, E.keep (zAb rfl (zAb rfl (zAb rfl (zAb rfl zAp))))⟩
  clear E; clear a; (try clear S); rintro m a w ⟨i, rfl, hi, S, E⟩
  refine wp_seq_k ?_; intro K hK
  refine zAc ?_
  refine zp E (zCb E rfl rfl rfl) ?_; clear E a; intro a E
  refine wpList_nil ?_
  refine zAh hK ?_; clear hK; clear K
  refine wp_seq_k ?_; intro K hK
  refine zBl E rfl (fun hb => ?_) (fun hb => ?_)
  · replace hb := Nrm.nrm hb
    refine wp_skip ?_
    refine zAh hK ?_; clear hK; clear K
    refine wp_seq_k ?_; intro K hK
    refine wp_block ?_
    refine wp_seq_k ?_; intro K hK
    have hil : i < ms.length := by omega
    obtain ⟨gm, om, rfl⟩ := hD.addr (by omega)
    obtain ⟨x, hx⟩ : ∃ x, xs[i]? = some x := ⟨_, List.getElem?_eq_getElem (by omega)⟩
    obtain ⟨q, hq⟩ : ∃ q, ms[i]? = some q := ⟨_, List.getElem?_eq_getElem hil⟩
    have hqb : (byt ms)[i]? = some (.int .u8 q.toNat) := by simp [byt, hq]
    have hxi : (xorB xs (ms.take i))[i]? = some x := by rw [zId _ _ _ (by rw [List.length_take]; omega)]; exact hx
    have hcell : (pre ++ byt (xorB xs (ms.take i)) ++ post)[off + i]? = some (.int .u8 x.toNat) := by
      rw [List.append_assoc, List.getElem?_append_right (by omega), hpre, Nat.add_sub_cancel_left, List.getElem?_append_left (by rw [zBm, zDz]; omega)]; simp [byt, hxi]
    have hset : (pre ++ byt (xorB xs (ms.take i)) ++ post).set (off + i) (.int .u8 (x ^^^ q).toNat) = pre ++ byt (xorB xs (ms.take (i + 1))) ++ post := by
      rw [List.append_assoc, List.set_append, if_neg (by omega), hpre, Nat.add_sub_cancel_left, List.set_append, if_pos (by rw [zBm, zDz]; omega), byt_set, xorB_step hx hq, List.append_assoc]
    refine zAc ?_
    refine zp E (zAe E rfl rfl) ?_; clear E a; intro a E
    refine zp E (zBk (i := i) E rfl rfl rfl rfl rfl rfl (by omega)) ?_; clear E a; intro a E
    refine zp E (zAj E rfl rfl rfl (hD.cells (S.stab.at (by repeat (first | exact mm1 | assumption | apply List.Mem.tail))) rfl i _ hqb)) ?_; clear E a; intro a E
    iterate 2 (refine zp E (zAg E rfl rfl) ?_; clear E a; intro a E)
    refine wpList_nil ?_
    refine zAh hK ?_; clear hK; clear K
    refine zAc ?_
    iterate 2 (refine zp E (zAe E rfl rfl) ?_; clear E a; intro a E)
    refine zp E (zBk (i := i) E rfl rfl rfl rfl rfl rfl (by omega)) ?_; clear E a; intro a E
    refine zp E (zAj E rfl rfl rfl (zCt (S.get (show List.Perm _ ([(g, _)] :: _) from (by repeat (first | exact pk1 | apply zAa)))) hcell)) ?_; clear E a; intro a E
    refine zp E (zAe E rfl rfl) ?_; clear E a; intro a E
    refine zp E (zEv E rfl rfl rfl (xor8 x q)) ?_; clear E a; intro a E
    refine zp E (zBk (i := i) E rfl rfl rfl rfl rfl rfl (by omega)) ?_; clear E a; intro a E
    refine zAo rfl (zBg E S rfl rfl rfl rfl rfl rfl (by repeat (first | exact pk1 | apply zAa)) (by simp [zBm, zDz]; omega) ?_); clear E S a; intro a w E S; try dsimp only [List.set] at S
    refine wpList_nil ?_
    refine zBf ?_
    refine zAh hK ?_; clear hK; clear K
    refine zAc ?_
    refine zp E (zBu E rfl rfl rfl (by first | exact zCj (y := 1) (by omega) | exact w_in (by omega) | exact zBy (by omega) | exact rfl)) ?_; clear E a; intro a E
    refine zp E (zAe E rfl rfl) ?_; clear E a; intro a E
    refine wpList_nil ?_
    refine zBe ?_
    rw [hset] at S
    exact ⟨_, by omega, i + 1, rfl, by omega, S, E.keep (zAb rfl (zAb rfl (zAb rfl (zAb rfl zAp))))⟩
  · replace hb := Nrm.nrm hb
    refine wp_exit ?_
    refine zBb ?_; clear hK; clear K
    refine zBb ?_
    refine zCm ?_
    refine end0 E rfl ?_
    obtain rfl : i = ms.length := by omega
    rw [List.take_length] at S
    exact ⟨_, rfl, S.tr⟩
end Go.Proofs.YtidhehcjafoneaaGreatDoor
namespace Go.Sl
def turnW (w : Wt) (mask : List UInt8) : Wt := ⟨w.d, w.at_, xorB w.b mask, by rw [zDz]; exact w.hb⟩
def coW (d a : Nat) (mask : List UInt8) (ws : List Wt) : List Wt := ws.map fun w => if w.d = d ∧ w.at_ = a then turnW w mask else w
def coMay (n : Nat) (at_ : Int) (mask : List UInt8) : Prop := 0 ≤ at_ ∧ at_ < (n / 128 : Nat) ∧ mask.length ≤ 128
instance (n : Nat) (at_ : Int) (mask : List UInt8) : Decidable (coMay n at_ mask) := by unfold coMay; infer_instance
def coE (f : Bool) (n : Nat) (at_ : Int) (mask : List UInt8) : Int := if f then 30 else if coMay n at_ mask then 0 else 1
def coB (f : Bool) (n : Nat) (at_ : Int) (mask b : List UInt8) : List UInt8 := if coE f n at_ mask = 0 then setS b at_.toNat (xorB (secB b at_.toNat) mask) else b
def coWs (d : Nat) (f : Bool) (n : Nat) (at_ : Int) (mask : List UInt8) (ws : List Wt) : List Wt := if coE f n at_ mask = 0 then coW d at_.toNat mask ws else ws
theorem byt_split (b : List UInt8) (i : Nat) : byt b = byt (b.take (128 * i)) ++ byt (secB b i) ++ byt (b.drop (128 * i + 128)) := by
  rw [secB, ← zCx, ← zCx]
  congr 1
  rw [List.append_assoc, ← List.drop_drop, List.take_append_drop, List.take_append_drop]
theorem zLf (b m : List UInt8) (i : Nat) : byt (b.take (128 * i)) ++ byt (xorB (secB b i) m) ++ byt (b.drop (128 * i + 128)) = byt (setS b i (xorB (secB b i) m)) := by
  rw [setS, zCx, zCx]
theorem wl_at (A B : List Wt) (w : Wt) (r : List Value) : wl (A ++ w :: B) ++ r = (wl A ++ [ptr w.d, .int .i64 w.at_]) ++ byt w.b ++ (wl B ++ r) := by
  simp [wl, Wt.lay]
theorem coW_take (d a : Nat) (mask : List UInt8) (ws : List Wt) {i : Nat} (hi : i < ws.length) : coW d a mask (ws.take (i + 1)) = coW d a mask (ws.take i) ++ [if ws[i].d = d ∧ ws[i].at_ = a then turnW ws[i] mask else ws[i]] := by
  rw [← List.take_append_getElem hi, coW, coW, List.map_append]; rfl
theorem zLg (d a : Nat) (mask : List UInt8) (ws : List Wt) : (coW d a mask ws).length = ws.length := by rw [coW, List.length_map]
end Go.Sl
namespace Go.Proofs.YtidhehcjafoneaaGreatDoor
open Go.Sl
set_option maxRecDepth 10000
theorem corrupt_ret (d p gp gn n : Nat) (f : Bool) (s : Pw) (vw vd : Value) (pl nw : List UInt8) (hpl : pl.length = n) (hnw : nw.length = n) (hn : n ≤ 1048576) (ws : List Wt) (Cw : zAs) (hCw : Buf Cw 103 130 vw ws.length (wl ws))
    (at_ : Int) (v : Value) (mask : List UInt8) (D : zAs) (hD : Rd D 1 v mask.length (byt mask)) (As : List zAs) (hDA : D ∈ As) (hB : ∀ x ∈ ws, x.d = d ∨ Bks As x.d) (w0 : World)
    (H : Hp w0 ([(p, pcl s vw vd)] :: Cw :: [(d, dcl p gp gn n f)] :: [(gp, cel (byt pl) 5)] :: [(gn, cel (byt nw) 5)] :: As)) :
    Ret Tryz.prog 10 #[ptr d, .int .i64 at_, v] w0 fun u w' => u = .int .i64 (coE f n at_ mask) ∧ ∃ Cw', Buf Cw' 103 130 vw ws.length (wl (coWs d f n at_ mask ws)) ∧
      Trs w0 w' ([(p, pcl s vw vd)] :: Cw :: [(d, dcl p gp gn n f)] :: [(gp, cel (byt pl) 5)] :: [(gn, cel (byt nw) 5)] :: As)
        ([(p, pcl s vw vd)] :: Cw' :: [(d, dcl p gp gn n f)] :: [(gp, cel (byt (coB f n at_ mask pl)) 5)] :: [(gn, cel (byt (coB f n at_ mask nw)) 5)] :: As) := by
  have S := St.begin H
  obtain ⟨ad, c, rfl⟩ := hD.slice
  obtain ⟨adw, cw, rfl⟩ := hCw.slice
  have hwm := hCw.rd.2.2.1
  simp only [maxLen] at hwm
  have nothing : coE f n at_ mask ≠ 0 → ∀ {w' : World}, St w0 ([(p, pcl s (.slice adw ws.length cw) vd)] :: Cw :: [(d, dcl p gp gn n f)] :: [(gp, cel (byt pl) 5)] :: [(gn, cel (byt nw) 5)] :: As) w' ([(p, pcl s (.slice adw ws.length cw) vd)] :: Cw :: [(d, dcl p gp gn n f)] :: [(gp, cel (byt pl) 5)] :: [(gn, cel (byt nw) 5)] :: As) →
      ∃ Cw', Buf Cw' 103 130 (.slice adw ws.length cw) ws.length (wl (coWs d f n at_ mask ws)) ∧ Trs w0 w' ([(p, pcl s (.slice adw ws.length cw) vd)] :: Cw :: [(d, dcl p gp gn n f)] :: [(gp, cel (byt pl) 5)] :: [(gn, cel (byt nw) 5)] :: As)
        ([(p, pcl s (.slice adw ws.length cw) vd)] :: Cw' :: [(d, dcl p gp gn n f)] :: [(gp, cel (byt (coB f n at_ mask pl)) 5)] :: [(gn, cel (byt (coB f n at_ mask nw)) 5)] :: As) := fun h w' S => by
    rw [coWs, coB, coB, if_neg h, if_neg h, if_neg h]; exact ⟨Cw, hCw, S.tr⟩
  refine zEs 85 Tryz.func10 rfl rfl (by decide) ?_; intro a E
  refine wp_seq_k ?_; intro K hK
  refine zAc ?_
  refine zp E (zAg E rfl rfl) ?_; clear E a; intro a E
  refine wpList_nil ?_
  refine zAh hK ?_; clear hK; clear K
  iterate 2 (refine wp_seq_k ?_; intro K hK)
  refine zAc ?_
  refine zp E (zAe E rfl rfl) ?_; clear E a; intro a E
  refine zp E (zAl E rfl rfl) ?_; clear E a; intro a E
  refine zp E (by first | exact zAf (q := 3) E rfl rfl rfl | exact zAi (q := 3) E rfl rfl rfl) ?_; clear E a; intro a E
  refine zp E (by first | exact zAn E rfl rfl rfl (S.get (by repeat (first | exact pk1 | apply zAa))) rfl | exact zAj E rfl rfl rfl (by assumption)) ?_; clear E a; intro a E
  refine wpList_nil ?_
  refine zAh hK ?_; clear hK; clear K
  refine zBl E rfl (fun hb => ?_) (fun hb => ?_)
  · replace hb := Nrm.nrm hb
    refine wp_seq_k ?_; intro K hK
    refine zAc ?_
    refine zp E (zAg E rfl rfl) ?_; clear E a; intro a E
    refine wpList_nil ?_
    refine zAh hK ?_; clear hK; clear K
    refine wp_ret ?_
    refine zBi ?_; clear hK; clear K
    refine ret1 E rfl rfl ?_
    have hE : coE f n at_ mask = 30 := by rw [coE, if_pos (by simpa using hb)]
    exact ⟨_, rfl, by rw [hE], nothing (by rw [hE]; decide) S⟩
  · replace hb := Nrm.nrm hb
    refine wp_skip ?_
    refine zAh hK ?_; clear hK; clear K
    iterate 2 (refine wp_seq_k ?_; intro K hK)
    have hf : f = false := by simpa using hb
    subst hf
    refine zAc ?_
    refine zp E (zAe E rfl rfl) ?_; clear E a; intro a E
    refine zp E (zCb E rfl rfl rfl) ?_; clear E a; intro a E
    refine zp E (zAe E rfl rfl) ?_; clear E a; intro a E
    refine zAy E (t := 15) rfl (fun hb15 => ?_) (fun hb15 => ?_)
    · have hb15n := hb15; replace hb15n := Nrm.nrm hb15n
      iterate 4 (refine zn E hb15 ?_; clear E a; intro a E)
      refine zp E (zAm E rfl rfl hb15 rfl) ?_; clear E a; intro a E
      refine zp E (zAe E rfl rfl) ?_; clear E a; intro a E
      iterate 3 (refine zn E rfl ?_; clear E a; intro a E)
      refine zp E (zAm E rfl rfl rfl rfl) ?_; clear E a; intro a E
      refine wpList_nil ?_
      refine zAh hK ?_; clear hK; clear K
      refine zDa E rfl rfl ?_
      refine wp_seq_k ?_; intro K hK
      refine zAc ?_
      refine zp E (zAg E rfl rfl) ?_; clear E a; intro a E
      refine wpList_nil ?_
      refine zAh hK ?_; clear hK; clear K
      refine wp_ret ?_
      refine zBi ?_; clear hK; clear K
      refine ret1 E rfl rfl ?_
      have hno : ¬ coMay n at_ mask := by intro q; obtain ⟨q1, q2, q3⟩ := q; omega
      have hE : coE false n at_ mask = 1 := by rw [coE, if_neg (by simp), if_neg hno]
      exact ⟨_, rfl, by rw [hE], nothing (by rw [hE]; decide) (by first | exact S | exact S.front5 (A := [(p, _)]) (by repeat (first | exact pk1 | apply zAa)) (B := Cw) (by repeat (first | exact pk1 | apply zAa)) (C := [(d, _)]) (by repeat (first | exact pk1 | apply zAa)) (D := [(gp, _)]) (by repeat (first | exact pk1 | apply zAa)) (F := [(gn, _)]) (by repeat (first | exact pk1 | apply zAa)))⟩
    · have hb15n := hb15; replace hb15n := Nrm.nrm hb15n
      iterate 2 (refine zy E hb15 (zAe E rfl rfl) ?_; clear E a; intro a E)
      refine zDg E rfl rfl rfl rfl hb15 ?_; refine zEe E rfl (by decide) rfl Tryz.func39 rfl (by kernel_rfl) rfl (zGl d p gp gn n false hn _ (S.hp.sel (zAd (by repeat (first | exact pk1 | apply zAa)) (zAk _)))) ?_
      rintro v18 w ⟨rfl, hT⟩; clear E a; intro a E
      have S := S.call1 (zAd (by repeat (first | exact pk1 | apply zAa)) (zAk _)) hT
      refine zy E hb15 (zDs E rfl rfl rfl) ?_; clear E a; intro a E
      refine zp E (zAq E rfl rfl hb15 rfl) ?_; clear E a; intro a E
      refine zp E (zAe E rfl rfl) ?_; clear E a; intro a E
      refine zAy E (t := 21) rfl (fun hb21 => ?_) (fun hb21 => ?_)
      · have hb21n := hb21; replace hb21n := Nrm.nrm hb21n
        iterate 3 (refine zn E hb21 ?_; clear E a; intro a E)
        refine zp E (zAm E rfl rfl hb21 rfl) ?_; clear E a; intro a E
        refine wpList_nil ?_
        refine zAh hK ?_; clear hK; clear K
        refine zDa E rfl rfl ?_
        refine wp_seq_k ?_; intro K hK
        refine zAc ?_
        refine zp E (zAg E rfl rfl) ?_; clear E a; intro a E
        refine wpList_nil ?_
        refine zAh hK ?_; clear hK; clear K
        refine wp_ret ?_
        refine zBi ?_; clear hK; clear K
        refine ret1 E rfl rfl ?_
        have hno : ¬ coMay n at_ mask := by intro q; obtain ⟨q1, q2, q3⟩ := q; omega
        have hE : coE false n at_ mask = 1 := by rw [coE, if_neg (by simp), if_neg hno]
        exact ⟨_, rfl, by rw [hE], nothing (by rw [hE]; decide) (by first | exact S | exact S.front5 (A := [(p, _)]) (by repeat (first | exact pk1 | apply zAa)) (B := Cw) (by repeat (first | exact pk1 | apply zAa)) (C := [(d, _)]) (by repeat (first | exact pk1 | apply zAa)) (D := [(gp, _)]) (by repeat (first | exact pk1 | apply zAa)) (F := [(gn, _)]) (by repeat (first | exact pk1 | apply zAa)))⟩
      · have hb21n := hb21; replace hb21n := Nrm.nrm hb21n
        refine zy E hb21 (zAe E rfl rfl) ?_; clear E a; intro a E
        refine zy E hb21 (by first | exact zCa E rfl rfl rfl | exact zBa E rfl rfl rfl | exact zAt E rfl rfl rfl) ?_; clear E a; intro a E
        refine zy E hb21 (zDd E rfl rfl rfl) ?_; clear E a; intro a E
        refine zp E (zAq E rfl rfl hb21 rfl) ?_; clear E a; intro a E
        refine wpList_nil ?_
        refine zAh hK ?_; clear hK; clear K
        refine zBl E rfl (fun hb => ?_) (fun hb => ?_)
        · replace hb := Nrm.nrm hb
          refine wp_seq_k ?_; intro K hK
          refine zAc ?_
          refine zp E (zAg E rfl rfl) ?_; clear E a; intro a E
          refine wpList_nil ?_
          refine zAh hK ?_; clear hK; clear K
          refine wp_ret ?_
          refine zBi ?_; clear hK; clear K
          refine ret1 E rfl rfl ?_
          have hno : ¬ coMay n at_ mask := by intro q; obtain ⟨q1, q2, q3⟩ := q; omega
          have hE : coE false n at_ mask = 1 := by rw [coE, if_neg (by simp), if_neg hno]
          exact ⟨_, rfl, by rw [hE], nothing (by rw [hE]; decide) (by first | exact S | exact S.front5 (A := [(p, _)]) (by repeat (first | exact pk1 | apply zAa)) (B := Cw) (by repeat (first | exact pk1 | apply zAa)) (C := [(d, _)]) (by repeat (first | exact pk1 | apply zAa)) (D := [(gp, _)]) (by repeat (first | exact pk1 | apply zAa)) (F := [(gn, _)]) (by repeat (first | exact pk1 | apply zAa)))⟩
        · replace hb := Nrm.nrm hb
          refine wp_skip ?_
          refine zAh hK ?_; clear hK; clear K
          refine wp_seq_k ?_; intro K hK
          have hyes : coMay n at_ mask := ⟨by omega, by omega, by omega⟩
          have hE : coE false n at_ mask = 0 := by rw [coE, if_neg (by simp), if_pos hyes]
          obtain ⟨hy1, hy2, hy3⟩ := hyes
          obtain ⟨an, rfl⟩ : ∃ an : Nat, at_ = an := ⟨at_.toNat, by omega⟩
          have S := S.front5 (A := [(p, _)]) (by repeat (first | exact pk1 | apply zAa)) (B := Cw) (by repeat (first | exact pk1 | apply zAa)) (C := [(d, _)]) (by repeat (first | exact pk1 | apply zAa)) (D := [(gp, _)]) (by repeat (first | exact pk1 | apply zAa)) (F := [(gn, _)]) (by repeat (first | exact pk1 | apply zAa))
          refine zAc ?_
          iterate 2 (refine zp E (zAe E rfl rfl) ?_; clear E a; intro a E)
          refine zp E (zAl E rfl rfl) ?_; clear E a; intro a E
          refine zp E (by first | exact zAf (q := 1) E rfl rfl rfl | exact zAi (q := 1) E rfl rfl rfl) ?_; clear E a; intro a E
          refine zp E (by first | exact zAn E rfl rfl rfl (S.get (by repeat (first | exact pk1 | apply zAa))) rfl | exact zAj E rfl rfl rfl (by assumption)) ?_; clear E a; intro a E
          refine zp E (zAe E rfl rfl) ?_; clear E a; intro a E
          refine zAr E rfl rfl (by decide) rfl Tryz.func41 rfl (by kernel_rfl) rfl (zGm (ptr d) gp n an (by omega) hn _) ?_
          rintro v32 w ⟨rfl, hT⟩; clear E a; intro a E
          have S := S.quiet hT
          refine zp E (zAe E rfl rfl) ?_; clear E a; intro a E
          have S := (S.front1 (A := [(gp, _)]) (by repeat (first | exact pk1 | apply zAa))).cel (byt_split pl an)
          refine zAr E rfl rfl (by decide) rfl Tryz.func40 rfl (by kernel_rfl) rfl (turn_ret gp (128 * an) 128 (n - 128 * an) 5 (byt (pl.take (128 * an))) (byt (pl.drop (128 * an + 128))) (secB pl an) (by rw [zBm, List.length_take]; omega) (zDj (by omega)) (by omega) _ mask hy3 D hD _ (show D ∈ _ from (by repeat (first | exact mm1 | assumption | apply List.Mem.tail))) _ S.hp) ?_
          rintro v34 w hT; clear E a; intro a E
          have S := (S.all hT).cel (zLf _ _ _)
          refine wpList_nil ?_
          refine zAh hK ?_; clear hK; clear K
          refine wp_seq_k ?_; intro K hK
          replace E := E.keep (e' := [(0, _), (1, _), (2, _), (6, _)]) (zAb rfl (zAb rfl (zAb rfl (zAb rfl (zAp)))))
          refine zAc ?_
          iterate 2 (refine zp E (zAe E rfl rfl) ?_; clear E a; intro a E)
          refine zp E (zAl E rfl rfl) ?_; clear E a; intro a E
          refine zp E (by first | exact zAf (q := 2) E rfl rfl rfl | exact zAi (q := 2) E rfl rfl rfl) ?_; clear E a; intro a E
          refine zp E (by first | exact zAn E rfl rfl rfl (S.get (by repeat (first | exact pk1 | apply zAa))) rfl | exact zAj E rfl rfl rfl (by assumption)) ?_; clear E a; intro a E
          refine zp E (zAe E rfl rfl) ?_; clear E a; intro a E
          refine zAr E rfl rfl (by decide) rfl Tryz.func41 rfl (by kernel_rfl) rfl (zGm (ptr d) gn n an (by omega) hn _) ?_
          rintro v41 w ⟨rfl, hT⟩; clear E a; intro a E
          have S := S.quiet hT
          refine zp E (zAe E rfl rfl) ?_; clear E a; intro a E
          have S := (S.front1 (A := [(gn, _)]) (by repeat (first | exact pk1 | apply zAa))).cel (byt_split nw an)
          refine zAr E rfl rfl (by decide) rfl Tryz.func40 rfl (by kernel_rfl) rfl (turn_ret gn (128 * an) 128 (n - 128 * an) 5 (byt (nw.take (128 * an))) (byt (nw.drop (128 * an + 128))) (secB nw an) (by rw [zBm, List.length_take]; omega) (zDj (by omega)) (by omega) _ mask hy3 D hD _ (show D ∈ _ from (by repeat (first | exact mm1 | assumption | apply List.Mem.tail))) _ S.hp) ?_
          rintro v43 w hT; clear E a; intro a E
          have S := (S.all hT).cel (zLf _ _ _)
          have S := S.front5 (A := [(p, _)]) (by repeat (first | exact pk1 | apply zAa)) (B := Cw) (by repeat (first | exact pk1 | apply zAa)) (C := [(d, _)]) (by repeat (first | exact pk1 | apply zAa)) (D := [(gp, _)]) (by repeat (first | exact pk1 | apply zAa)) (F := [(gn, _)]) (by repeat (first | exact pk1 | apply zAa))
          refine wpList_nil ?_
          refine zAh hK ?_; clear hK; clear K
          iterate 2 (refine wp_seq_k ?_; intro K hK)
          refine zAc ?_
          refine zp E (zAe E rfl rfl) ?_; clear E a; intro a E
          refine zp E (zAl E rfl rfl) ?_; clear E a; intro a E
          refine zp E (by first | exact zAf (q := 0) E rfl rfl rfl | exact zAi (q := 0) E rfl rfl rfl) ?_; clear E a; intro a E
          refine zp E (by first | exact zAn E rfl rfl rfl (S.get (by repeat (first | exact pk1 | apply zAa))) rfl | exact zAj E rfl rfl rfl (by assumption)) ?_; clear E a; intro a E
          refine zp E (zAl E rfl rfl) ?_; clear E a; intro a E
          refine zp E (by first | exact zAf (q := 0) E rfl rfl rfl | exact zAi (q := 0) E rfl rfl rfl) ?_; clear E a; intro a E
          refine zp E (by first | exact zAn E rfl rfl rfl (S.get (by repeat (first | exact pk1 | apply zAa))) rfl | exact zAj E rfl rfl rfl (by assumption)) ?_; clear E a; intro a E
          refine zp E (by first | exact zCa E rfl rfl rfl | exact zBa E rfl rfl rfl | exact zAt E rfl rfl rfl) ?_; clear E a; intro a E
          refine zp E (zAe E rfl rfl) ?_; clear E a; intro a E
          refine wpList_nil ?_
          refine zAh hK ?_; clear hK; clear K
          refine wp_block ?_
          refine wp_loop_ghost (fun (m : Nat) (a : Act) (w' : World) => ∃ (i : Nat) (Cx : zAs), m = ws.length - i ∧ i ≤ ws.length ∧ Buf Cx 103 130 (.slice adw ws.length cw) ws.length (wl (coW d an mask (ws.take i) ++ ws.drop i)) ∧ St w0 ([(p, pcl s (.slice adw ws.length cw) vd)] :: Cw :: [(d, dcl p gp gn n false)] :: [(gp, cel (byt pl) 5)] :: [(gn, cel (byt nw) 5)] :: As) w' ([(p, pcl s (.slice adw ws.length cw) vd)] :: Cx :: [(d, dcl p gp gn n false)] :: [(gp, cel (byt (setS pl an (xorB (secB pl an) mask))) 5)] :: [(gn, cel (byt (setS nw an (xorB (secB nw an) mask))) 5)] :: As) ∧ Fr a 85 [(0, ptr d), (1, .int .i64 an), (2, .slice ad mask.length c), (51, .int .i64 ws.length), (52, .int .i64 i)]) (ws.length - 0) ?_ ?_
          · exact ⟨0, Cw, rfl, by omega, by simpa [coW] using hCw, S, E.keep (zAb rfl (zAb rfl (zAb rfl (zAb rfl (zAb rfl zAp)))))⟩
          clear E; clear a; (try clear S); rintro m a w ⟨i, Cx, rfl, hi, hCx, S, E⟩
          refine wp_seq_k ?_; intro K hK
          refine zAc ?_
          refine zp E (zCb E rfl rfl rfl) ?_; clear E a; intro a E
          refine wpList_nil ?_
          refine zAh hK ?_; clear hK; clear K
          refine wp_seq_k ?_; intro K hK
          refine zBl E rfl (fun hb => ?_) (fun hb => ?_)
          · replace hb := Nrm.nrm hb
            refine wp_skip ?_
            refine zAh hK ?_; clear hK; clear K
            refine wp_seq_k ?_; intro K hK
            refine wp_block ?_
            refine wp_seq_k ?_; intro K hK
            have hil : i < ws.length := by omega
            obtain ⟨x, hx⟩ : ∃ x, x = ws[i]'hil := ⟨_, rfl⟩
            have hbk := hB _ (List.getElem_mem hil)
            have htk := coW_take d an mask ws hil
            rw [← hx] at hbk htk
            obtain ⟨A, hA⟩ : ∃ A, A = coW d an mask (ws.take i) := ⟨_, rfl⟩
            obtain ⟨B, hBd⟩ : ∃ B, B = ws.drop (i + 1) := ⟨_, rfl⟩
            have hAl : A.length = i := by rw [hA, zLg, List.length_take]; omega
            rw [List.drop_eq_getElem_cons hil, ← hx, ← hA, ← hBd] at hCx
            rw [← hA] at htk
            obtain ⟨gw, cw2, r, hv, rfl, hcw1, hcw2, hcw3⟩ := hCx.opened (by omega)
            cases hv
            have hlay := wl_at A B x r
            have hWA : (wl A).length = i * 130 := by rw [zFp, hAl]
            have hc0 : (wl (A ++ x :: B) ++ r)[i * 130]? = some (ptr x.d) := by rw [hlay, List.append_assoc, List.append_assoc, List.getElem?_append_right (by omega), hWA, Nat.sub_self]; rfl
            have hc1 : (wl (A ++ x :: B) ++ r)[i * 130 + 1]? = some (.int .i64 x.at_) := by rw [hlay, List.append_assoc, List.append_assoc, List.getElem?_append_right (by omega), hWA, Nat.add_sub_cancel_left]; rfl
            have hlen2 : (wl (A ++ x :: B)).length = ws.length * 130 := hCx.1
            refine zAc ?_
            refine zp E (zAe E rfl rfl) ?_; clear E a; intro a E
            refine zp E (zAg E rfl rfl) ?_; clear E a; intro a E
            refine wpList_nil ?_
            refine zAh hK ?_; clear hK; clear K
            refine wp_seq_k ?_; intro K hK
            refine zAc ?_
            refine zp E (zAe E rfl rfl) ?_; clear E a; intro a E
            refine zp E (zAl E rfl rfl) ?_; clear E a; intro a E
            refine zp E (by first | exact zAf (q := 0) E rfl rfl rfl | exact zAi (q := 0) E rfl rfl rfl) ?_; clear E a; intro a E
            refine zp E (by first | exact zAn E rfl rfl rfl (S.get (by repeat (first | exact pk1 | apply zAa))) rfl | exact zAj E rfl rfl rfl (by assumption)) ?_; clear E a; intro a E
            refine zp E (zAl E rfl rfl) ?_; clear E a; intro a E
            refine zp E (by first | exact zAf (q := 0) E rfl rfl rfl | exact zAi (q := 0) E rfl rfl rfl) ?_; clear E a; intro a E
            refine zp E (by first | exact zAn E rfl rfl rfl (S.get (by repeat (first | exact pk1 | apply zAa))) rfl | exact zAj E rfl rfl rfl (by assumption)) ?_; clear E a; intro a E
            refine zp E (zAe E rfl rfl) ?_; clear E a; intro a E
            refine zp E (zBn (i := i) (s := 130) E rfl rfl rfl rfl rfl rfl (by omega)) ?_; clear E a; intro a E
            rw [Nat.zero_add] at E
            refine zp E (zAg E rfl rfl) ?_; clear E a; intro a E
            refine wpList_nil ?_
            refine zAh hK ?_; clear hK; clear K
            refine wp_seq_k ?_; intro K hK
            refine zAc ?_
            refine zp E (zAe E rfl rfl) ?_; clear E a; intro a E
            refine zp E (zAl E rfl rfl) ?_; clear E a; intro a E
            refine zp E (by first | exact zAf (q := 0) E rfl rfl rfl | exact zAi (q := 0) E rfl rfl rfl) ?_; clear E a; intro a E
            refine zp E (zAj E rfl rfl rfl (zCt (S.get (show List.Perm _ ([(gw, _)] :: _) from (by repeat (first | exact pk1 | apply zAa)))) hc0)) ?_; clear E a; intro a E
            refine zp E (zAe E rfl rfl) ?_; clear E a; intro a E
            refine zp E (rn_eql_ptrs (i := x.d) (j := d) E rfl rfl rfl rfl rfl (by decide) (hbk.imp_right fun h => ⟨(h.sub (fun _ h => by repeat (first | exact h | apply List.Mem.tail))).bk S.stab, ⟨_, _, S.get (show List.Perm _ ([(d, _)] :: _) from (by repeat (first | exact pk1 | apply zAa)))⟩⟩)) ?_; clear E a; intro a E
            refine zp E (zAe E rfl rfl) ?_; clear E a; intro a E
            refine zAy E (t := 70) rfl (fun hb70 => ?_) (fun hb70 => ?_)
            · have hb70n := hb70; replace hb70n := Nrm.nrm hb70n
              refine zy E hb70 (zAe E rfl rfl) ?_; clear E a; intro a E
              refine zy E hb70 (zAl E rfl rfl) ?_; clear E a; intro a E
              refine zy E hb70 (by first | exact zAf (q := 1) E rfl rfl rfl | exact zAi (q := 1) E rfl rfl rfl) ?_; clear E a; intro a E
              refine zy E hb70 (zAj E rfl rfl rfl (zCt (S.get (show List.Perm _ ([(gw, _)] :: _) from (by repeat (first | exact pk1 | apply zAa)))) hc1)) ?_; clear E a; intro a E
              refine zy E hb70 (zAe E rfl rfl) ?_; clear E a; intro a E
              refine zy E hb70 (by first | exact zCf E rfl rfl rfl | exact zAu E rfl rfl rfl rfl | exact zBc E rfl rfl rfl rfl | exact zAw E rfl rfl rfl) ?_; clear E a; intro a E
              refine zp E (zAm E rfl rfl hb70 rfl) ?_; clear E a; intro a E
              refine wpList_nil ?_
              refine zAh hK ?_; clear hK; clear K
              refine zBl E rfl (fun hb => ?_) (fun hb => ?_)
              · replace hb := Nrm.nrm hb
                skip
                have hT1 : x.d = d ∧ x.at_ = an := by refine ⟨by simpa using hb70, ?_⟩; omega
                refine zAc ?_
                refine zp E (zAe E rfl rfl) ?_; clear E a; intro a E
                refine zp E (zAl E rfl rfl) ?_; clear E a; intro a E
                refine zp E (by first | exact zAf (q := 2) E rfl rfl rfl | exact zAi (q := 2) E rfl rfl rfl) ?_; clear E a; intro a E
                refine zp E (zFx E rfl rfl rfl rfl (by decide)) ?_; clear E a; intro a E
                refine zp E (zAe E rfl rfl) ?_; clear E a; intro a E
                have S := (S.front1 (A := [(gw, _)]) (by repeat (first | exact pk1 | apply zAa))).cel hlay
                refine zAr E rfl rfl (by decide) rfl Tryz.func40 rfl (by kernel_rfl) rfl (turn_ret gw (i * 130 + 2) 128 128 103 (wl A ++ [ptr x.d, .int .i64 x.at_]) (wl B ++ r) x.b (by rw [List.length_append, hWA]; rfl) x.hb (by omega) _ mask hy3 D hD _ (show D ∈ _ from (by repeat (first | exact mm1 | assumption | apply List.Mem.tail))) _ S.hp) ?_
                rintro v83 w hT; clear E a; intro a E
                have S := (S.all hT).cel (wl_at A B (turnW x mask) r).symm
                refine wpList_nil ?_
                refine zBf ?_
                refine zAh hK ?_; clear hK; clear K
                refine zAc ?_
                refine zp E (zBu E rfl rfl rfl (by first | exact zCj (y := 1) (by omega) | exact w_in (by omega) | exact zBy (by omega) | exact rfl)) ?_; clear E a; intro a E
                refine zp E (zAe E rfl rfl) ?_; clear E a; intro a E
                refine wpList_nil ?_
                refine zBe ?_
                have hn1 : ¬ (x.d = d ∧ x.at_ = an) ∨ (x.d = d ∧ x.at_ = an) := by by_cases h : x.d = d ∧ x.at_ = an; exact .inr h; exact .inl h
                first
                | (rw [if_pos hT1] at htk
                   have S := S.front5 (A := [(p, _)]) (by repeat (first | exact pk1 | apply zAa)) (B := [(gw, _)]) (by repeat (first | exact pk1 | apply zAa)) (C := [(d, _)]) (by repeat (first | exact pk1 | apply zAa)) (D := [(gp, _)]) (by repeat (first | exact pk1 | apply zAa)) (F := [(gn, _)]) (by repeat (first | exact pk1 | apply zAa))
                   exact ⟨_, by omega, i + 1, _, rfl, by omega, by rw [htk, ← hBd, List.append_assoc]; exact zJx (by rw [zFp, ← hlen2, zFp]; simp) (wl_one _) hcw1 hcw2 (by rw [← hcw3, zFp, zFp]; simp), S, E.keep (zAb rfl (zAb rfl (zAb rfl (zAb rfl (zAb rfl zAp)))))⟩)
                | (have hT0 : ¬ (x.d = d ∧ x.at_ = an) := by intro q; have q1 := q.1; have q2 := q.2; simp_all
                   rw [if_neg hT0] at htk
                   exact ⟨_, by omega, i + 1, _, rfl, by omega, by rw [htk, ← hBd, List.append_assoc]; exact hCx, S.front5 (A := [(p, _)]) (by repeat (first | exact pk1 | apply zAa)) (B := [(gw, _)]) (by repeat (first | exact pk1 | apply zAa)) (C := [(d, _)]) (by repeat (first | exact pk1 | apply zAa)) (D := [(gp, _)]) (by repeat (first | exact pk1 | apply zAa)) (F := [(gn, _)]) (by repeat (first | exact pk1 | apply zAa)), E.keep (zAb rfl (zAb rfl (zAb rfl (zAb rfl (zAb rfl zAp)))))⟩)
              · replace hb := Nrm.nrm hb
                skip
                refine wp_skip ?_
                refine zBf ?_
                refine zAh hK ?_; clear hK; clear K
                refine zAc ?_
                refine zp E (zBu E rfl rfl rfl (by first | exact zCj (y := 1) (by omega) | exact w_in (by omega) | exact zBy (by omega) | exact rfl)) ?_; clear E a; intro a E
                refine zp E (zAe E rfl rfl) ?_; clear E a; intro a E
                refine wpList_nil ?_
                refine zBe ?_
                have hn1 : ¬ (x.d = d ∧ x.at_ = an) ∨ (x.d = d ∧ x.at_ = an) := by by_cases h : x.d = d ∧ x.at_ = an; exact .inr h; exact .inl h
                first
                | (rw [if_pos hT1] at htk
                   have S := S.front5 (A := [(p, _)]) (by repeat (first | exact pk1 | apply zAa)) (B := [(gw, _)]) (by repeat (first | exact pk1 | apply zAa)) (C := [(d, _)]) (by repeat (first | exact pk1 | apply zAa)) (D := [(gp, _)]) (by repeat (first | exact pk1 | apply zAa)) (F := [(gn, _)]) (by repeat (first | exact pk1 | apply zAa))
                   exact ⟨_, by omega, i + 1, _, rfl, by omega, by rw [htk, ← hBd, List.append_assoc]; exact zJx (by rw [zFp, ← hlen2, zFp]; simp) (wl_one _) hcw1 hcw2 (by rw [← hcw3, zFp, zFp]; simp), S, E.keep (zAb rfl (zAb rfl (zAb rfl (zAb rfl (zAb rfl zAp)))))⟩)
                | (have hT0 : ¬ (x.d = d ∧ x.at_ = an) := by intro q; have q1 := q.1; have q2 := q.2; simp_all
                   rw [if_neg hT0] at htk
                   exact ⟨_, by omega, i + 1, _, rfl, by omega, by rw [htk, ← hBd, List.append_assoc]; exact hCx, S.front5 (A := [(p, _)]) (by repeat (first | exact pk1 | apply zAa)) (B := [(gw, _)]) (by repeat (first | exact pk1 | apply zAa)) (C := [(d, _)]) (by repeat (first | exact pk1 | apply zAa)) (D := [(gp, _)]) (by repeat (first | exact pk1 | apply zAa)) (F := [(gn, _)]) (by repeat (first | exact pk1 | apply zAa)), E.keep (zAb rfl (zAb rfl (zAb rfl (zAb rfl (zAb rfl zAp)))))⟩)
            · have hb70n := hb70; replace hb70n := Nrm.nrm hb70n
              iterate 6 (refine zn E hb70 ?_; clear E a; intro a E)
              refine zp E (zAq E rfl rfl hb70 rfl) ?_; clear E a; intro a E
              refine wpList_nil ?_
              refine zAh hK ?_; clear hK; clear K
              refine zBt E rfl rfl ?_
              refine wp_skip ?_
              refine zBf ?_
              refine zAh hK ?_; clear hK; clear K
              refine zAc ?_
              refine zp E (zBu E rfl rfl rfl (by first | exact zCj (y := 1) (by omega) | exact w_in (by omega) | exact zBy (by omega) | exact rfl)) ?_; clear E a; intro a E
              refine zp E (zAe E rfl rfl) ?_; clear E a; intro a E
              refine wpList_nil ?_
              refine zBe ?_
              have hn1 : ¬ (x.d = d ∧ x.at_ = an) ∨ (x.d = d ∧ x.at_ = an) := by by_cases h : x.d = d ∧ x.at_ = an; exact .inr h; exact .inl h
              first
              | (rw [if_pos hT1] at htk
                 have S := S.front5 (A := [(p, _)]) (by repeat (first | exact pk1 | apply zAa)) (B := [(gw, _)]) (by repeat (first | exact pk1 | apply zAa)) (C := [(d, _)]) (by repeat (first | exact pk1 | apply zAa)) (D := [(gp, _)]) (by repeat (first | exact pk1 | apply zAa)) (F := [(gn, _)]) (by repeat (first | exact pk1 | apply zAa))
                 exact ⟨_, by omega, i + 1, _, rfl, by omega, by rw [htk, ← hBd, List.append_assoc]; exact zJx (by rw [zFp, ← hlen2, zFp]; simp) (wl_one _) hcw1 hcw2 (by rw [← hcw3, zFp, zFp]; simp), S, E.keep (zAb rfl (zAb rfl (zAb rfl (zAb rfl (zAb rfl zAp)))))⟩)
              | (have hT0 : ¬ (x.d = d ∧ x.at_ = an) := by intro q; have q1 := q.1; have q2 := q.2; simp_all
                 rw [if_neg hT0] at htk
                 exact ⟨_, by omega, i + 1, _, rfl, by omega, by rw [htk, ← hBd, List.append_assoc]; exact hCx, S.front5 (A := [(p, _)]) (by repeat (first | exact pk1 | apply zAa)) (B := [(gw, _)]) (by repeat (first | exact pk1 | apply zAa)) (C := [(d, _)]) (by repeat (first | exact pk1 | apply zAa)) (D := [(gp, _)]) (by repeat (first | exact pk1 | apply zAa)) (F := [(gn, _)]) (by repeat (first | exact pk1 | apply zAa)), E.keep (zAb rfl (zAb rfl (zAb rfl (zAb rfl (zAb rfl zAp)))))⟩)
          · replace hb := Nrm.nrm hb
            refine wp_exit ?_
            refine zBb ?_; clear hK; clear K
            refine zBb ?_
            refine zCm ?_
            refine zAh hK ?_; clear hK; clear K
            refine wp_seq_k ?_; intro K hK
            refine zAc ?_
            refine zp E (zAg E rfl rfl) ?_; clear E a; intro a E
            refine wpList_nil ?_
            refine zAh hK ?_; clear hK; clear K
            refine wp_ret ?_
            refine ret1 E rfl rfl ?_
            obtain rfl : i = ws.length := by omega
            rw [List.take_length, List.drop_length, List.append_nil] at hCx
            refine ⟨_, rfl, by rw [hE], ?_⟩
            rw [coWs, coB, coB, if_pos hE, if_pos hE, if_pos hE, Int.toNat_natCast]
            exact ⟨Cx, hCx, S.tr⟩
end Go.Proofs.YtidhehcjafoneaaGreatDoor
namespace Go.Sl
structure Rk where
  pw : Pw
  ws : List Wt
  ds : List Dk
def setD (ds : List Dk) (d : Nat) (g : Dk → Dk) : List Dk := ds.map fun x => if x.d = d then g x else x
theorem zHu {A B : List Dk} {x : Dk} (g : Dk → Dk) (hnd : ((A ++ x :: B).map Dk.d).Nodup) : setD (A ++ x :: B) x.d g = A ++ g x :: B := by
  have h : ∀ l : List Dk, (∀ y ∈ l, y.d ≠ x.d) → l.map (fun y => if y.d = x.d then g y else y) = l := fun l hl => by
    conv => rhs; rw [← List.map_id l]
    exact List.map_congr_left fun y hy => by rw [if_neg (fun q => hl y hy q)]; rfl
  rw [List.map_append, List.map_cons, List.nodup_append] at hnd
  obtain ⟨h1, h2, h3⟩ := hnd
  rw [List.nodup_cons] at h2
  rw [setD, List.map_append, List.map_cons, if_pos rfl, h A (fun y hy q => h3 y.d (List.mem_map_of_mem hy) x.d (List.mem_cons_self ..) q), h B (fun y hy q => h2.1 (by rw [← q]; exact List.mem_map_of_mem hy))]
theorem zHi {ds : List Dk} (hnd : (ds.map Dk.d).Nodup) {x y : Dk} (hx : x ∈ ds) (hy : y ∈ ds) (h : x.d = y.d) : x = y := by
  induction ds with
  | nil => cases hx
  | cons z r ih =>
    rw [List.map_cons, List.nodup_cons] at hnd
    rcases List.mem_cons.1 hx with rfl | hx'
    · rcases List.mem_cons.1 hy with rfl | hy'
      · rfl
      · exact absurd (by rw [h]; exact List.mem_map_of_mem hy') hnd.1
    · rcases List.mem_cons.1 hy with rfl | hy'
      · exact absurd (by rw [← h]; exact List.mem_map_of_mem hx') hnd.1
      · exact ih hnd.2 hx' hy'
structure Same (x y : Dk) : Prop where
  d : y.d = x.d
  gp : y.gp = x.gp
  gn : y.gn = x.gn
  pl : y.pl.length = x.pl.length
  now : y.now.length = x.pl.length
def Rk.write (R : Rk) (x : Dk) (at_ : Int) (b : List UInt8) : Rk :=
  ⟨(wrS x.d x.pl.length at_ b R.pw x.failed x.now R.ws).1, (wrS x.d x.pl.length at_ b R.pw x.failed x.now R.ws).2.2.1, setD R.ds x.d fun y => { y with now := (wrS x.d x.pl.length at_ b R.pw x.failed x.now R.ws).2.1 }⟩
def Rk.writeE (R : Rk) (x : Dk) (at_ : Int) (b : List UInt8) : Int := (wrS x.d x.pl.length at_ b R.pw x.failed x.now R.ws).2.2.2
def Rk.flush (R : Rk) (x : Dk) : Rk := ⟨R.pw, flW x.d R.pw x.failed R.ws, setD R.ds x.d fun y => { y with pl := flP R.pw x.failed x.pl x.now }⟩
def Rk.fail (R : Rk) (x : Dk) : Rk := ⟨R.pw, outW x.d R.ws, setD R.ds x.d fun y => { y with now := x.pl, failed := true }⟩
def Rk.replace (R : Rk) (x : Dk) : Rk := ⟨R.pw, outW x.d R.ws, setD R.ds x.d fun y => { y with pl := List.replicate x.pl.length 0, now := List.replicate x.pl.length 0, failed := false }⟩
def Rk.corrupt (R : Rk) (x : Dk) (at_ : Int) (mask : List UInt8) : Rk :=
  ⟨R.pw, coWs x.d x.failed x.pl.length at_ mask R.ws, setD R.ds x.d fun y => { y with pl := coB x.failed x.pl.length at_ mask x.pl, now := coB x.failed x.pl.length at_ mask x.now }⟩
def Rk.up (R : Rk) (st : List Bool) : Rk := ⟨⟨-1, false, R.pw.wr⟩, [], (upW R.ws st R.ds).map Dk.settle⟩
def Rk.cut (R : Rk) (k : Int) : Rk := { R with pw := { R.pw with left := max (-1) k } }
def Rk.add (R : Rk) (d gp gn n : Nat) : Rk := { R with ds := R.ds ++ [⟨d, gp, gn, List.replicate (n * 128) 0, List.replicate (n * 128) 0, false⟩] }
theorem zHj {f : Bool} {n : Nat} {at_ : Int} {mask b : List UInt8} (hb : b.length = n) : (coB f n at_ mask b).length = n := by
  unfold coB
  split
  · rename_i h
    have hm : coMay n at_ mask := by
      unfold coE at h
      split at h
      · cases h
      · split at h
        · assumption
        · cases h
    obtain ⟨h1, h2, h3⟩ := hm
    rw [zEh (by omega) (by rw [zDz, zDj (by omega)])]; exact hb
  · exact hb
theorem coWs_mem {d : Nat} {f : Bool} {n : Nat} {at_ : Int} {mask : List UInt8} {ws : List Wt} {w : Wt} (h : w ∈ coWs d f n at_ mask ws) : ∃ w0 ∈ ws, w0.d = w.d ∧ w0.at_ = w.at_ := by
  unfold coWs at h
  split at h
  · obtain ⟨w0, h1, h2⟩ := List.mem_map.1 h
    refine ⟨w0, h1, ?_⟩
    split at h2 <;> subst h2 <;> exact ⟨rfl, rfl⟩
  · exact ⟨w, h, rfl, rfl⟩
theorem coWs_length {d : Nat} {f : Bool} {n : Nat} {at_ : Int} {mask : List UInt8} {ws : List Wt} : (coWs d f n at_ mask ws).length = ws.length := by
  unfold coWs; split
  · exact zLg ..
  · rfl
end Go.Sl
namespace Go.Proofs.YtidhehcjafoneaaGreatDoor
open Go.Sl
set_option maxRecDepth 10000
theorem zIp {A B : List Dk} {x y : Dk} (h : DkOk (A ++ x :: B)) (hs : Same x y) : DkOk (A ++ y :: B) := by
  obtain ⟨h1, h2⟩ := h
  refine ⟨by simpa [hs.d] using h1, fun z hz => ?_⟩
  rcases List.mem_append.1 hz with hz | hz
  · exact h2 z (List.mem_append_left _ hz)
  · rcases List.mem_cons.1 hz with rfl | hz
    · have := h2 x (List.mem_append_right _ (List.mem_cons_self ..))
      rw [hs.pl, hs.now]; exact ⟨rfl, this.2⟩
    · exact h2 z (List.mem_append_right _ (List.mem_cons_of_mem _ hz))
theorem zIq {A B : List Dk} {ws : List Wt} {x y : Dk} (h : WtOk ws (A ++ x :: B)) (hs : Same x y) : WtOk ws (A ++ y :: B) := fun w hw => by
  obtain ⟨⟨z, h1, h2⟩, h3⟩ := h w hw
  refine ⟨?_, fun u hu hud => ?_⟩
  · rcases List.mem_append.1 h1 with h1 | h1
    · exact ⟨z, List.mem_append_left _ h1, h2⟩
    · rcases List.mem_cons.1 h1 with rfl | h1
      · exact ⟨y, List.mem_append_right _ (List.mem_cons_self ..), by rw [hs.d]; exact h2⟩
      · exact ⟨z, List.mem_append_right _ (List.mem_cons_of_mem _ h1), h2⟩
  · rcases List.mem_append.1 hu with hu | hu
    · exact h3 u (List.mem_append_left _ hu) hud
    · rcases List.mem_cons.1 hu with rfl | hu
      · rw [hs.pl]; exact h3 x (List.mem_append_right _ (List.mem_cons_self ..)) (by rw [← hs.d]; exact hud)
      · exact h3 u (List.mem_append_right _ (List.mem_cons_of_mem _ hu)) hud
theorem wt_sub {ds : List Dk} {ws ws' : List Wt} (h : WtOk ws ds) (k : ∀ w ∈ ws', w ∈ ws) : WtOk ws' ds := fun w hw => h w (k w hw)
abbrev RkL (p : Nat) (R : Rk) (vw vd : Value) (Cw Cd : zAs) : List zAs := [(p, pcl R.pw vw vd)] :: Cw :: Cd :: chs p R.ds
def RkC (p : Nat) (R : Rk) (C : zAs) : Prop :=
  ∃ vw vd Cw Cd, Buf Cw 103 130 vw R.ws.length (wl R.ws) ∧ Buf Cd 46 1 vd R.ds.length (R.ds.map fun x => ptr x.d) ∧ DkOk R.ds ∧ WtOk R.ws R.ds ∧ C = (RkL p R vw vd Cw Cd).flatten
theorem RkC.ok {p : Nat} {R : Rk} {C : zAs} (h : RkC p R C) : DkOk R.ds ∧ WtOk R.ws R.ds := by
  obtain ⟨_, _, _, _, _, _, h1, h2, _⟩ := h; exact ⟨h1, h2⟩
section
variable {w0 w : World} {As Ls : List zAs} {p : Nat} {s : Pw} {vw vd : Value} {Cw Cd C : zAs} {ws : List Wt} {A B : List Dk} {x y : Dk}
theorem zLh (S : St w0 As w ((RkL p ⟨s, ws, A ++ x :: B⟩ vw vd Cw Cd).flatten :: Ls)) : St w0 As w ([(p, pcl s vw vd)] :: Cw :: ch1 p x :: ch2 x :: ch3 x :: Cd :: (chs p (A ++ B) ++ Ls)) := by
  have S : St w0 As w ([(p, pcl s vw vd)] :: Cw :: Cd :: (chs p (A ++ x :: B) ++ Ls)) := S.openF
  have S := S.perm (zFi p _ _ _ A B x Ls)
  exact S.front5 (A := [(p, pcl s vw vd)]) (by repeat (first | exact pk1 | apply zAa)) (B := Cw) (by repeat (first | exact pk1 | apply zAa)) (C := ch1 p x) (by repeat (first | exact pk1 | apply zAa)) (D := ch2 x) (by repeat (first | exact pk1 | apply zAa)) (F := ch3 x) (by repeat (first | exact pk1 | apply zAa))
theorem rk_in (S : St w0 As w ([(p, pcl s vw vd)] :: Cw :: ch1 p x :: ch2 x :: ch3 x :: Cd :: (chs p (A ++ B) ++ Ls))) : St w0 As w ((RkL p ⟨s, ws, A ++ x :: B⟩ vw vd Cw Cd).flatten :: Ls) := by
  have S := S.front6 (A := ch1 p x) (by repeat (first | exact pk1 | apply zAa)) (B := ch2 x) (by repeat (first | exact pk1 | apply zAa)) (C := ch3 x) (by repeat (first | exact pk1 | apply zAa)) (D := [(p, pcl s vw vd)]) (by repeat (first | exact pk1 | apply zAa)) (F := Cw) (by repeat (first | exact pk1 | apply zAa)) (G := Cd) (by repeat (first | exact pk1 | apply zAa))
  have S := S.perm (zFi p _ _ _ A B x Ls).symm
  exact St.closeF (Ms := RkL p ⟨s, ws, A ++ x :: B⟩ vw vd Cw Cd) S
theorem rk_in1 {E : zAs} (S : St w0 As w ([(p, pcl s vw vd)] :: Cw :: ch1 p x :: ch2 x :: ch3 x :: Cd :: E :: (chs p (A ++ B) ++ Ls))) : St w0 As w ((RkL p ⟨s, ws, A ++ x :: B⟩ vw vd Cw Cd).flatten :: E :: Ls) :=
  rk_in (Ls := E :: Ls) (S.perm (((((((List.perm_middle (l₁ := chs p (A ++ B)) (a := E) (l₂ := Ls)).symm).cons _).cons _).cons _).cons _).cons _ |>.cons _))
theorem rk_bks (h : WtOk ws (A ++ x :: B)) {Ms : List zAs} (hM : ∀ c ∈ chs p (A ++ B), c ∈ Ms) : ∀ w ∈ ws, w.d = x.d ∨ Bks Ms w.d := fun w hw => by
  obtain ⟨⟨z, h1, h2⟩, -⟩ := h w hw
  have h1 : z = x ∨ z ∈ A ++ B := by
    rcases List.mem_append.1 h1 with h1 | h1
    · exact .inr (List.mem_append_left _ h1)
    · rcases List.mem_cons.1 h1 with h1 | h1
      · exact .inl h1
      · exact .inr (List.mem_append_right _ h1)
  rcases h1 with rfl | h1
  · exact .inl h2.symm
  · have hm : (z.d, dcl p z.gp z.gn z.pl.length z.failed) ∈ ch1 p z := List.mem_singleton.2 rfl
    rw [h2] at hm
    exact .inr ⟨ch1 p z, hM _ (List.mem_flatMap.2 ⟨z, h1, List.mem_cons_self ..⟩), _, _, hm⟩
end
theorem rk_newp (w0 : World) : Ret Tryz.prog 24 #[] w0 fun u w' => ∃ p C, u = ptr p ∧ RkC p ⟨⟨-1, false, 0⟩, [], []⟩ C ∧ Trs w0 w' [] [C] := by
  refine (newpower_ret w0).mono fun u w' ⟨p, h, hT⟩ => ?_
  refine ⟨p, _, h, ⟨_, _, [], [], Buf.nil _ _, Buf.nil _ _, ⟨by simp, by simp⟩, fun w hw => by simp at hw, rfl⟩, ?_⟩
  simpa [chs] using hT
theorem rk_write (p : Nat) (R : Rk) (C : zAs) (hC : RkC p R C) (x : Dk) (hx : x ∈ R.ds) (hws : R.ws.length + 8192 ≤ 244335861110) (hwr : R.pw.wr ≤ 1000000000000000000) (hlf : R.pw.left ≤ 9223372036854775807)
    (at_ : Int) (ha : -9223372036854775808 ≤ at_ ∧ at_ ≤ 9223372036854775807) (v : Value) (b : List UInt8) (D : zAs) (hD : Rd D 1 v b.length (byt b)) (hcap : ∃ ad c, v = .slice ad b.length c ∧ b.length ≤ c) (w0 : World) (H : Hp w0 [C, D]) :
    Ret Tryz.prog 54 #[ptr x.d, .int .i64 at_, v] w0 fun u w' => ∃ C', u = .int .i64 (R.writeE x at_ b) ∧ RkC p (R.write x at_ b) C' ∧ Trs w0 w' [C, D] [C', D] := by
  obtain ⟨s, ws, ds⟩ := R
  obtain ⟨vw, vd, Cw, Cd, h1, h2, h3, h4, rfl⟩ := hC
  simp only at h1 h2 h3 h4 hx hws hwr hlf
  obtain ⟨A, B, rfl⟩ := List.append_of_mem hx
  have S := (zLh (St.begin H)).front4 (A := [(p, pcl s vw vd)]) (by repeat (first | exact pk1 | apply zAa)) (B := Cw) (by repeat (first | exact pk1 | apply zAa)) (C := ch1 p x) (by repeat (first | exact pk1 | apply zAa)) (D := ch3 x) (by repeat (first | exact pk1 | apply zAa))
  have hxl := h3.2 x hx
  refine (dwrite_ret x.d p x.gn x.gp x.pl.length x.failed s vw vd x.now hxl.1 hxl.2 ws hws hwr hlf Cw h1 at_ ha v b D hD hcap _ (show D ∈ _ from (by first | exact List.Mem.tail _ (List.Mem.tail _ (List.mem_append_right _ (List.mem_singleton.2 rfl))))) w0 S.hp).mono fun u w' ⟨vw', Cw', hu, hB, hl, hT⟩ => ?_
  have S := S.all hT
  have hs : Same x { x with now := (wrS x.d x.pl.length at_ b s x.failed x.now ws).2.1 } := ⟨rfl, rfl, rfl, rfl, hl⟩
  have hfit := wrS_fit (d := x.d) (n := x.pl.length) (at_ := at_) (b := b) (fun w => (∃ y ∈ A ++ x :: B, y.d = w.d) ∧ ∀ y ∈ A ++ x :: B, y.d = w.d → 128 * w.at_ + 128 ≤ y.pl.length) (fun j b' hj => ⟨⟨x, hx, rfl⟩, fun y hy hyd => by rw [zHi h3.1 hy hx hyd]; exact hj⟩) s x.failed x.now ws h4
  have hset : setD (A ++ x :: B) x.d (fun y => { y with now := (wrS x.d x.pl.length at_ b s x.failed x.now ws).2.1 }) = A ++ { x with now := (wrS x.d x.pl.length at_ b s x.failed x.now ws).2.1 } :: B := zHu _ h3.1
  have S := rk_in (x := { x with now := (wrS x.d x.pl.length at_ b s x.failed x.now ws).2.1 }) (ws := (wrS x.d x.pl.length at_ b s x.failed x.now ws).2.2.1) (S.front5 (A := [(p, pcl (wrS x.d x.pl.length at_ b s x.failed x.now ws).1 vw' vd)]) (by repeat (first | exact pk1 | apply zAa)) (B := Cw') (by repeat (first | exact pk1 | apply zAa)) (C := ch1 p x) (by repeat (first | exact pk1 | apply zAa)) (D := ch2 x) (by repeat (first | exact pk1 | apply zAa)) (F := ch3 { x with now := (wrS x.d x.pl.length at_ b s x.failed x.now ws).2.1 }) (by repeat (first | exact pk1 | apply zAa)))
  refine ⟨_, hu, ⟨vw', vd, Cw', Cd, hB, ?_, ?_, ?_, rfl⟩, ?_⟩
  · simp only [Rk.write]; rw [hset]; simpa using h2
  · simp only [Rk.write]; rw [hset]; exact zIp h3 hs
  · simp only [Rk.write]; rw [hset]; exact zIq hfit hs
  · simp only [Rk.write]; rw [hset]; exact S.tr
theorem rk_read (p : Nat) (R : Rk) (C : zAs) (hC : RkC p R C) (x : Dk) (hx : x ∈ R.ds) (at_ many : Int) (ha : -9223372036854775808 ≤ at_ ∧ at_ ≤ 9223372036854775807) (w0 : World) (H : Hp w0 [C]) :
    Ret Tryz.prog 45 #[ptr x.d, .int .i64 at_, .int .i64 many] w0 fun u w' => ∃ v Cb, u = .tuple #[v, .int .i64 (rdS R.pw x.failed x.now at_ many).1] ∧ Buf Cb 5 1 v (rdS R.pw x.failed x.now at_ many).2.length (byt (rdS R.pw x.failed x.now at_ many).2) ∧ Trs w0 w' [C] [Cb, C] := by
  obtain ⟨s, ws, ds⟩ := R
  obtain ⟨vw, vd, Cw, Cd, h1, h2, h3, h4, rfl⟩ := hC
  simp only at h1 h2 h3 h4 hx
  obtain ⟨A, B, rfl⟩ := List.append_of_mem hx
  have hxl := h3.2 x hx
  have S := (zLh (St.begin H)).front3 (A := [(p, pcl s vw vd)]) (by repeat (first | exact pk1 | apply zAa)) (B := ch1 p x) (by repeat (first | exact pk1 | apply zAa)) (C := ch3 x) (by repeat (first | exact pk1 | apply zAa))
  have he : ch1 p x = [(x.d, dcl p x.gp x.gn x.now.length x.failed)] := by rw [hxl.1]
  rw [he] at S
  refine (dread_u x.d p x.gp x.gn x.failed s vw vd x.now (by omega) at_ many ha w0 (S.hp.sel (zAd (by repeat (first | exact pk1 | apply zAa)) (zAd (by repeat (first | exact pk1 | apply zAa)) (zAd (by repeat (first | exact pk1 | apply zAa)) (zAk _)))))).mono fun u w' ⟨v, Cb, hu, hB, hT⟩ => ?_
  have S := S.call4 (zAd (by repeat (first | exact pk1 | apply zAa)) (zAd (by repeat (first | exact pk1 | apply zAa)) (zAd (by repeat (first | exact pk1 | apply zAa)) (zAk _)))) hT
  rw [← he] at S
  have S := rk_in1 (ws := ws) (S.front6 (A := [(p, pcl s vw vd)]) (by repeat (first | exact pk1 | apply zAa)) (B := Cw) (by repeat (first | exact pk1 | apply zAa)) (C := ch1 p x) (by repeat (first | exact pk1 | apply zAa)) (D := ch2 x) (by repeat (first | exact pk1 | apply zAa)) (F := ch3 x) (by repeat (first | exact pk1 | apply zAa)) (G := Cd) (by repeat (first | exact pk1 | apply zAa)))
  exact ⟨v, Cb, hu, hB, S.perm2.tr⟩
theorem rk_flush (p : Nat) (R : Rk) (C : zAs) (hC : RkC p R C) (x : Dk) (hx : x ∈ R.ds) (w0 : World) (H : Hp w0 [C]) :
    Ret Tryz.prog 58 #[ptr x.d] w0 fun u w' => u = .int .i64 (flE R.pw x.failed) ∧ ∃ C', RkC p (R.flush x) C' ∧ Trs w0 w' [C] [C'] := by
  obtain ⟨s, ws, ds⟩ := R
  obtain ⟨vw, vd, Cw, Cd, h1, h2, h3, h4, rfl⟩ := hC
  simp only at h1 h2 h3 h4 hx
  obtain ⟨A, B, rfl⟩ := List.append_of_mem hx
  have hxl := h3.2 x hx
  have S := zLh (St.begin H)
  refine (flush_u x.d p x.gp x.gn x.pl.length x.failed s vw vd x.pl x.now rfl hxl.1 hxl.2 ws Cw h1 _ (rk_bks h4 fun c hc => List.Mem.tail _ (List.mem_append_left _ hc)) w0 S.hp).mono fun u w' ⟨hu, vw', Cw', hB, hT⟩ => ?_
  have S := S.all hT
  have hl : (flP s x.failed x.pl x.now).length = x.pl.length := by unfold flP; split; exact hxl.1; rfl
  have hs : Same x { x with pl := flP s x.failed x.pl x.now } := ⟨rfl, rfl, rfl, hl, hxl.1⟩
  have hset : setD (A ++ x :: B) x.d (fun y => { y with pl := flP s x.failed x.pl x.now }) = A ++ { x with pl := flP s x.failed x.pl x.now } :: B := zHu _ h3.1
  have he : [(x.d, dcl p x.gp x.gn x.pl.length x.failed)] = ch1 p { x with pl := flP s x.failed x.pl x.now } := by simp only [ch1, hl]
  rw [he] at S
  have S := rk_in (x := { x with pl := flP s x.failed x.pl x.now }) (ws := flW x.d s x.failed ws) S
  refine ⟨hu, _, ⟨vw', vd, Cw', Cd, hB, ?_, ?_, ?_, rfl⟩, ?_⟩
  · simp only [Rk.flush]; rw [hset]; simpa using h2
  · simp only [Rk.flush]; rw [hset]; exact zIp h3 hs
  · simp only [Rk.flush]; rw [hset]; exact zIq (wt_sub h4 fun w => flW_mem) hs
  · simp only [Rk.flush]; rw [hset]; exact S.tr
theorem rk_fail (p : Nat) (R : Rk) (C : zAs) (hC : RkC p R C) (x : Dk) (hx : x ∈ R.ds) (w0 : World) (H : Hp w0 [C]) :
    Ret Tryz.prog 9 #[ptr x.d] w0 fun _ w' => ∃ C', RkC p (R.fail x) C' ∧ Trs w0 w' [C] [C'] := by
  obtain ⟨s, ws, ds⟩ := R
  obtain ⟨vw, vd, Cw, Cd, h1, h2, h3, h4, rfl⟩ := hC
  simp only at h1 h2 h3 h4 hx
  obtain ⟨A, B, rfl⟩ := List.append_of_mem hx
  have hxl := h3.2 x hx
  have S := zLh (St.begin H)
  refine (fail_ret x.d p x.gp x.gn x.pl.length x.failed s vw vd x.pl x.now rfl hxl.1 hxl.2 ws Cw h1 _ (rk_bks h4 fun c hc => List.Mem.tail _ (List.mem_append_left _ hc)) w0 S.hp).mono fun u w' ⟨vw', Cw', hB, hT⟩ => ?_
  have S := S.all hT
  have hs : Same x { x with now := x.pl, failed := true } := ⟨rfl, rfl, rfl, rfl, rfl⟩
  have hset : setD (A ++ x :: B) x.d (fun y => { y with now := x.pl, failed := true }) = A ++ { x with now := x.pl, failed := true } :: B := zHu _ h3.1
  have S := rk_in (x := { x with now := x.pl, failed := true }) (ws := outW x.d ws) S
  refine ⟨_, ⟨vw', vd, Cw', Cd, hB, ?_, ?_, ?_, rfl⟩, ?_⟩
  · simp only [Rk.fail]; rw [hset]; simpa using h2
  · simp only [Rk.fail]; rw [hset]; exact zIp h3 hs
  · simp only [Rk.fail]; rw [hset]; exact zIq (wt_sub h4 fun w hw => (List.mem_filter.1 hw).1) hs
  · simp only [Rk.fail]; rw [hset]; exact S.tr
theorem rk_corrupt (p : Nat) (R : Rk) (C : zAs) (hC : RkC p R C) (x : Dk) (hx : x ∈ R.ds) (at_ : Int) (v : Value) (mask : List UInt8) (D : zAs) (hD : Rd D 1 v mask.length (byt mask)) (w0 : World) (H : Hp w0 [C, D]) :
    Ret Tryz.prog 10 #[ptr x.d, .int .i64 at_, v] w0 fun u w' => u = .int .i64 (coE x.failed x.pl.length at_ mask) ∧ ∃ C', RkC p (R.corrupt x at_ mask) C' ∧ Trs w0 w' [C, D] [C', D] := by
  obtain ⟨s, ws, ds⟩ := R
  obtain ⟨vw, vd, Cw, Cd, h1, h2, h3, h4, rfl⟩ := hC
  simp only at h1 h2 h3 h4 hx
  obtain ⟨A, B, rfl⟩ := List.append_of_mem hx
  have hxl := h3.2 x hx
  have S := zLh (St.begin H)
  refine (corrupt_ret x.d p x.gp x.gn x.pl.length x.failed s vw vd x.pl x.now rfl hxl.1 hxl.2 ws Cw h1 at_ v mask D hD _ (List.Mem.tail _ (List.mem_append_right _ (List.mem_singleton.2 rfl))) (rk_bks h4 fun c hc => List.Mem.tail _ (List.mem_append_left _ hc)) w0 S.hp).mono fun u w' ⟨hu, Cw', hB, hT⟩ => ?_
  have S := S.all hT
  have hl : (coB x.failed x.pl.length at_ mask x.pl).length = x.pl.length := zHj rfl
  have hl2 : (coB x.failed x.pl.length at_ mask x.now).length = x.pl.length := zHj hxl.1
  have hs : Same x { x with pl := coB x.failed x.pl.length at_ mask x.pl, now := coB x.failed x.pl.length at_ mask x.now } := ⟨rfl, rfl, rfl, hl, hl2⟩
  have hset : setD (A ++ x :: B) x.d (fun y => { y with pl := coB x.failed x.pl.length at_ mask x.pl, now := coB x.failed x.pl.length at_ mask x.now }) = A ++ { x with pl := coB x.failed x.pl.length at_ mask x.pl, now := coB x.failed x.pl.length at_ mask x.now } :: B := zHu _ h3.1
  have he : [(x.d, dcl p x.gp x.gn x.pl.length x.failed)] = ch1 p { x with pl := coB x.failed x.pl.length at_ mask x.pl, now := coB x.failed x.pl.length at_ mask x.now } := by simp only [ch1, hl]
  rw [he] at S
  have S := rk_in (x := { x with pl := coB x.failed x.pl.length at_ mask x.pl, now := coB x.failed x.pl.length at_ mask x.now }) (ws := coWs x.d x.failed x.pl.length at_ mask ws) S
  have h4' : WtOk (coWs x.d x.failed x.pl.length at_ mask ws) (A ++ x :: B) := fun w hw => by
    obtain ⟨w1, q1, q2, q3⟩ := coWs_mem hw
    rw [← q2, ← q3]; exact h4 w1 q1
  refine ⟨hu, _, ⟨vw, vd, Cw', Cd, ?_, ?_, ?_, ?_, rfl⟩, ?_⟩
  · simp only [Rk.corrupt]; rw [coWs_length]; exact hB
  · simp only [Rk.corrupt]; rw [hset]; simpa using h2
  · simp only [Rk.corrupt]; rw [hset]; exact zIp h3 hs
  · simp only [Rk.corrupt]; rw [hset]; exact zIq h4' hs
  · simp only [Rk.corrupt]; rw [hset]; exact S.tr
theorem rk_up (p : Nat) (R : Rk) (C : zAs) (hC : RkC p R C) (v : Value) (st : List Bool) (O : zAs) (hO : Rd O 1 v st.length (st.map Value.bool)) (w0 : World) (H : Hp w0 [C, O]) :
    Ret Tryz.prog 17 #[ptr p, v] w0 fun _ w' => ∃ C', RkC p (R.up st) C' ∧ Trs w0 w' [C, O] [C', O] := by
  obtain ⟨s, ws, ds⟩ := R
  obtain ⟨vw, vd, Cw, Cd, h1, h2, h3, h4, rfl⟩ := hC
  simp only at h1 h2 h3 h4
  have S : St w0 _ w0 ([(p, pcl s vw vd)] :: Cw :: Cd :: (chs p ds ++ [O])) := (St.begin H).openF
  refine (up_ret p s vw vd ws Cw h1 ds Cd h2 h3 h4 v st O hO [O] (List.mem_singleton.2 rfl) w0 S.hp).mono fun u w' hT => ?_
  have S := S.all hT
  have S := S.addNil.front3 (A := [(p, _)]) (by repeat (first | exact pk1 | apply zAa)) (B := []) (by repeat (first | exact pk1 | apply zAa)) (C := Cd) (by repeat (first | exact pk1 | apply zAa))
  have S := St.closeF (Ms := RkL p (Rk.up ⟨s, ws, ds⟩ st) (.slice none 0 0) vd [] Cd) S
  have hk : ∀ (ws : List Wt) (st : List Bool) (es : List Dk), WtOk ws es → (upW ws st es).map Dk.key = es.map Dk.key := by
    intro ws
    induction ws with
    | nil => intro st es _; rfl
    | cons w r ih =>
      intro st es h
      rw [upW]
      have hw := h w (List.mem_cons_self ..)
      split
      · have hp := putD_key (w := w) hw.2
        rw [ih _ _ (key_wt hp (wt_sub h fun z hz => List.mem_cons_of_mem _ hz)), hp]
      · exact ih _ _ (wt_sub h fun z hz => List.mem_cons_of_mem _ hz)
  have hkk := hk ws st ds h4
  have hok := key_ok hkk h3
  have hd : ((upW ws st ds).map Dk.settle).map Dk.d = ds.map Dk.d := by rw [List.map_map, ← key_d hkk]; rfl
  refine ⟨_, ⟨_, vd, [], Cd, Buf.nil _ _, ?_, ⟨by show (((upW ws st ds).map Dk.settle).map Dk.d).Nodup; rw [hd]; exact h3.1, fun x hx => ?_⟩, fun w hw => by simp [Rk.up] at hw, rfl⟩, S.tr⟩
  · have e : ((upW ws st ds).map Dk.settle).map (fun x => ptr x.d) = ds.map fun x => ptr x.d := by
      have := congrArg (List.map fun d => ptr d) hd
      simpa [List.map_map, Function.comp_def] using this
    have e2 : ((upW ws st ds).map Dk.settle).length = ds.length := by have := congrArg List.length hd; simpa using this
    show Buf Cd _ 1 vd ((upW ws st ds).map Dk.settle).length (((upW ws st ds).map Dk.settle).map fun x => ptr x.d)
    rw [e, e2]; exact h2
  · obtain ⟨y, hy, rfl⟩ := List.mem_map.1 hx
    exact ⟨rfl, (hok.2 y hy).2⟩
section
variable {w0 w : World} {As Ls : List zAs} {p : Nat} {R : Rk} {vw vd : Value} {Cw Cd : zAs}
theorem rk_power (S : St w0 As w ((RkL p R vw vd Cw Cd).flatten :: Ls)) : St w0 As w ([(p, pcl R.pw vw vd)] :: Cw :: Cd :: (chs p R.ds ++ Ls)) := S.openF
theorem rk_close (S : St w0 As w ([(p, pcl R.pw vw vd)] :: Cw :: Cd :: (chs p R.ds ++ Ls))) : St w0 As w ((RkL p R vw vd Cw Cd).flatten :: Ls) := St.closeF (Ms := RkL p R vw vd Cw Cd) S
end
theorem zGe (p : Nat) (R : Rk) (C : zAs) (hC : RkC p R C) (x : Dk) (hx : x ∈ R.ds) (w0 : World) (H : Hp w0 [C]) : Ret Tryz.prog 39 #[ptr x.d] w0 fun u w' => u = .int .i64 (x.pl.length / 128 : Nat) ∧ Trs w0 w' [C] [C] := by
  obtain ⟨s, ws, ds⟩ := R
  obtain ⟨vw, vd, Cw, Cd, h1, h2, h3, h4, rfl⟩ := hC
  simp only at h1 h2 h3 h4 hx
  obtain ⟨A, B, rfl⟩ := List.append_of_mem hx
  have S := (zLh (St.begin H)).front1 (A := ch1 p x) (by repeat (first | exact pk1 | apply zAa))
  refine (zGl x.d p x.gp x.gn x.pl.length x.failed (h3.2 x hx).2 w0 (S.hp.sel (zAd (by repeat (first | exact pk1 | apply zAa)) (zAk _)))).mono fun u w' ⟨hu, hT⟩ => ?_
  exact ⟨hu, (rk_in (ws := ws) ((S.call1 (zAd (by repeat (first | exact pk1 | apply zAa)) (zAk _)) hT).front3 (A := [(p, _)]) (by repeat (first | exact pk1 | apply zAa)) (B := Cw) (by repeat (first | exact pk1 | apply zAa)) (C := ch1 p x) (by repeat (first | exact pk1 | apply zAa)))).tr⟩
theorem rk_new (p : Nat) (R : Rk) (C : zAs) (hC : RkC p R C) (hl : R.ds.length ≤ 1000) (n : Nat) (h1 : 1 ≤ n) (h2 : n ≤ 8192) (w0 : World) (H : Hp w0 [C]) :
    Ret Tryz.prog 26 #[ptr p, .int .i64 n] w0 fun u w' => ∃ d gp gn C', u = .tuple #[ptr d, .int .i64 0] ∧ (∀ y ∈ R.ds, y.d ≠ d) ∧ RkC p (R.add d gp gn n) C' ∧ Trs w0 w' [C] [C'] := by
  obtain ⟨s, ws, ds⟩ := R
  obtain ⟨vw, vd, Cw, Cd, g1, g2, g3, g4, rfl⟩ := hC
  simp only at g1 g2 g3 g4 hl
  have S := (rk_power (St.begin H)).front2 (A := [(p, _)]) (by repeat (first | exact pk1 | apply zAa)) (B := Cd) (by repeat (first | exact pk1 | apply zAa))
  refine (dnew_ret p s vw vd ds.length _ Cd g2 hl n h1 h2 w0 (S.hp.sel (zAd (by repeat (first | exact pk1 | apply zAa)) (zAd (by repeat (first | exact pk1 | apply zAa)) (zAk _))))).mono fun u w' ⟨d, gp, gn, vd', Cd', hu, hB, hT⟩ => ?_
  have S := S.call (zAd (by repeat (first | exact pk1 | apply zAa)) (zAd (by repeat (first | exact pk1 | apply zAa)) (zAk _))) hT
  obtain ⟨x, hx⟩ : ∃ x : Dk, x = ⟨d, gp, gn, List.replicate (n * 128) 0, List.replicate (n * 128) 0, false⟩ := ⟨_, rfl⟩
  have hxl : x.pl.length = n * 128 := by rw [hx]; simp
  have he : [(d, dcl p gp gn (n * 128) false)] = ch1 p x := by rw [hx]; simp only [ch1, List.length_replicate]
  rw [he] at S
  have S : St w0 [(RkL p ⟨s, ws, ds⟩ vw vd Cw Cd).flatten] w' ([(p, pcl s vw vd')] :: Cd' :: ch1 p x :: ch2 x :: ch3 x :: Cw :: (chs p ds ++ [])) := by subst hx; exact S
  have hfr : ∀ y ∈ ds, y.d ≠ d := fun y hy hyd => by
    have hS := (S.front1 (A := ch1 p x) (by repeat (first | exact pk1 | apply zAa))).hp
    have hnd := hS.1
    simp only [List.flatten_cons, List.map_append, List.nodup_append] at hnd
    refine hnd.2.2 d (by rw [hx]; exact List.mem_singleton.2 rfl) d ?_ rfl
    simp only [List.mem_append]
    refine .inr (.inr (.inr (.inr (.inr ?_))))
    rw [← hyd]
    refine List.mem_map.2 ⟨(y.d, _), List.mem_flatten.2 ⟨ch1 p y, List.mem_append_left _ (List.mem_flatMap.2 ⟨y, hy, List.mem_cons_self ..⟩), List.mem_singleton.2 rfl⟩, rfl⟩
  have S := S.front6 (A := ch1 p x) (by repeat (first | exact pk1 | apply zAa)) (B := ch2 x) (by repeat (first | exact pk1 | apply zAa)) (C := ch3 x) (by repeat (first | exact pk1 | apply zAa)) (D := [(p, _)]) (by repeat (first | exact pk1 | apply zAa)) (F := Cw) (by repeat (first | exact pk1 | apply zAa)) (G := Cd') (by repeat (first | exact pk1 | apply zAa))
  have hpm := zFi p [(p, pcl s vw vd')] Cw Cd' ds [] x []
  rw [List.append_nil ds] at hpm
  have S := rk_close (R := ⟨s, ws, ds ++ [x]⟩) (S.perm hpm.symm)
  subst hx
  refine ⟨d, gp, gn, _, hu, hfr, ⟨vw, vd', Cw, Cd', g1, ?_, ⟨?_, ?_⟩, ?_, rfl⟩, S.tr⟩
  · simp only [Rk.add, List.length_append, List.length_singleton, List.map_append, List.map_cons, List.map_nil]; exact hB
  · simp only [Rk.add, List.map_append, List.map_cons, List.map_nil]
    rw [List.nodup_append]
    refine ⟨g3.1, by simp, fun a ha b hb => ?_⟩
    obtain ⟨y, hy, rfl⟩ := List.mem_map.1 ha
    rw [List.mem_singleton.1 hb]; exact hfr y hy
  · intro y hy
    rcases List.mem_append.1 hy with hy | hy
    · exact g3.2 y hy
    · rw [List.mem_singleton.1 hy]; simp only [List.length_replicate]; exact ⟨trivial, by omega⟩
  · intro w hw
    obtain ⟨⟨y, q1, q2⟩, q3⟩ := g4 w hw
    refine ⟨⟨y, List.mem_append_left _ q1, q2⟩, fun z hz hzd => ?_⟩
    rcases List.mem_append.1 hz with hz | hz
    · exact q3 z hz hzd
    · rw [List.mem_singleton.1 hz] at hzd; exact absurd (q2.trans hzd.symm) (hfr y q1)
end Go.Proofs.YtidhehcjafoneaaGreatDoor
namespace Go.Sl
section
variable {P : Program} {Q : Exit → Act → World → Prop} {a : Act} {w w0 : World} {As Ls Rs : List zAs} {o : Oper} {K : Act → World → Prop} {n : Nat} {e : List (Nat × Value)} {ds : List Deferred} {x y : Operand}
theorem wp_atadd (E : Fr a n e ds) (S : St w0 As w Ls) {f : FuncId} {fn : Func} {ts : Array TypeId} {d b j : Nat} {k : IntKind} {l : List Value} {T : TypeId} {z q : Int} (ho : o.op = .call { callee := .value (.func f), args := [x, y].toArray, argTypes := ts }) (hd : o.dst = some d) (hn : d < n)
    (hf : P.funcs[f]? = some fn) (hnm : (fn.name == "runtime.NumGoroutine") = false) (hb : fn.body.isNone = true) (hnx : Extern.findNext fn = none) (he : Extern.find fn = some (Extern.Atomic.update (Op.intArith .add) k true))
    (hx : ev e x = some (.pointer (some ⟨b, j, none⟩))) (hy : ev e y = some (.int k q)) (hp : Ls.Perm ([(b, cel l T)] :: Rs)) (hv : l[j]? = some (.int k z))
    (kk : ∀ a' w', Fr a' n ((d, .int k (k.wrap (z + q))) :: e) ds → St w0 As w' ([(b, cel (l.set j (.int k (k.wrap (z + q)))) T)] :: Rs) → K a' w') : o.wp P a w K Q := by
  have hg := S.get hp
  have hc : w.cell? ⟨b, j, none⟩ = some (.int k z) := by rw [zGi hg, List.getElem?_toArray]; exact hv
  have hz : w.frozen? ⟨b, j, none⟩ = false := by simp [World.frozen?, hg]
  have hr := Go.Conc.run_add_entry (P := P) (w := w) (d := q) hc hz
  rw [setCell_eq_setRow w b j _ T (0, 0) _ hg] at hr
  have hrow : (l.toArray.setIfInBounds j (.int k (k.wrap (z + q)))) = (l.set j (.int k (k.wrap (z + q)))).toArray := by simp
  rw [hrow] at hr
  have hrun : zBh P o a w (.int k (k.wrap (z + q))) (w.setRow b (l.set j (.int k (k.wrap (z + q)))).toArray) := by
    unfold zBh execOp
    have hgf : ev e (.func f) = some (.func (.func f) #[] #[]) := rfl
    have hxs : evs e [x, y] = some [.pointer (some ⟨b, j, none⟩), .int k q] := by simp [evs, hx, hy]
    have hcf := run_callFunc_extern (P := P) (args := #[.pointer (some ⟨b, j, none⟩), .int k q]) (w := w) hf hnm hb hnx he
    simp [ho, resolve, E.eval hgf, Deferred.ofValue, invoke, E.eval hx, E.eval hy, hcf, hr, Result.andThen]
  exact hrun.wp (by rw [hd]; exact kk _ _ (E.put hn _) (S.row hp))
end
end Go.Sl
namespace Go.Sl
def dkOf (R : Rk) (d : Nat) : Dk := (R.ds.find? fun x => decide (x.d = d)).getD ⟨0, 0, 0, [], [], false⟩
theorem zDb {R : Rk} {d : Nat} (h : ∃ x ∈ R.ds, x.d = d) : dkOf R d ∈ R.ds ∧ (dkOf R d).d = d := by
  unfold dkOf
  cases hf : R.ds.find? fun x => decide (x.d = d) with
  | none =>
    obtain ⟨x, h1, h2⟩ := h
    have := List.find?_eq_none.1 hf x h1
    simp [h2] at this
  | some x => exact ⟨List.mem_of_find?_eq_some hf, by simpa using List.find?_some hf⟩
theorem dkOf_eq {R : Rk} {x : Dk} (hnd : (R.ds.map Dk.d).Nodup) (hx : x ∈ R.ds) : dkOf R x.d = x :=
  have h := zDb (R := R) (d := x.d) ⟨x, hx, rfl⟩
  zHi hnd h.1 hx h.2
def Rk.has (R : Rk) (d : Nat) : Prop := ∃ x ∈ R.ds, x.d = d
def zEl (x : Dk) : Int := (x.pl.length / 128 : Nat) - 292
def zIr (x : Dk) (at_ many : Int) : Prop := 0 ≤ at_ ∧ 0 ≤ many ∧ at_ ≤ zEl x ∧ many ≤ zEl x - at_
instance (x : Dk) (at_ many : Int) : Decidable (zIr x at_ many) := by unfold zIr; infer_instance
def zJg (R : Rk) (x : Dk) : Int := if R.pw.off then 5 else if x.failed then 30 else 0
theorem rdS_ask (R : Rk) (x : Dk) : (rdS R.pw x.failed x.now 0 0).1 = zJg R x := by
  unfold rdS zJg
  split
  · rfl
  · split
    · rfl
    · rw [if_neg]; intro h; exact h ⟨Int.le_refl _, Int.le_refl _, by omega, by omega⟩
def zFy (R : Rk) (x : Dk) (at_ many : Int) : Int × List UInt8 :=
  if zJg R x ≠ 0 then (zJg R x, []) else if ¬ zIr x at_ many then (1, []) else rdS R.pw x.failed x.now (274 + at_) many
def zDw (R : Rk) (x : Dk) (at_ : Int) (b : List UInt8) : Rk × Int :=
  if zJg R x ≠ 0 then (R, zJg R x) else if b.length % 128 ≠ 0 ∨ ¬ zIr x at_ (b.length / 128 : Nat) then (R, 1) else (R.write x (274 + at_) b, R.writeE x (274 + at_) b)
end Go.Sl
namespace Go.Proofs.YtidhehcjafoneaaGreatDoor
open Go.Sl
set_option maxRecDepth 10000
abbrev lfcl (d : Nat) (u1 u2 u3 u4 : Value) (r q s : Int) : Obj := cel [ptr d, u1, u2, u3, u4, .int .i64 r, .int .i64 q, .int .i64 s] 112
def LfC (p d : Nat) (C : zAs) : Prop := ∃ u1 u2 u3 u4 r q s, C = [(p, lfcl d u1 u2 u3 u4 r q s)]
theorem atadd_ret (p off : Nat) (l : List Value) (T : TypeId) (z q : Int) (hv : l[off]? = some (.int .i64 z)) (w0 : World) (H : Hp w0 [[(p, cel l T)]]) :
    Ret Tryz.prog 70 #[.pointer (some ⟨p, off, none⟩), .int .i64 q] w0 fun _ w' => ∃ z', Trs w0 w' [[(p, cel l T)]] [[(p, cel (l.set off (.int .i64 z')) T)]] := by
  have S := St.begin H
  refine zCy 10 Tryz.func70 rfl rfl (by decide) ?_; intro a E
  refine wp_seq_k ?_; intro K hK
  refine zAc ?_
  refine zp E (zAg E rfl rfl) ?_; clear E a; intro a E
  refine wpList_nil ?_
  refine zAh hK ?_; clear hK; clear K
  refine wp_seq_k ?_; intro K hK
  refine zAc ?_
  refine zp E (zAe E rfl rfl) ?_; clear E a; intro a E
  refine zp E (zAl E rfl rfl) ?_; clear E a; intro a E
  refine zp E (by first | exact zAf (q := 0) E rfl rfl rfl | exact zAi (q := 0) E rfl rfl rfl) ?_; clear E a; intro a E
  refine zp E (zAe E rfl rfl) ?_; clear E a; intro a E
  refine zAo rfl (wp_atadd E S rfl rfl (by decide) Tryz.func86 (by kernel_rfl) (by kernel_rfl) (by kernel_rfl) (by kernel_rfl) rfl rfl (by repeat (first | exact pk1 | apply zAa)) hv ?_); clear E S a; intro a w E S
  refine zp E (zAg E rfl rfl) ?_; clear E a; intro a E
  refine wpList_nil ?_
  refine zAh hK ?_; clear hK; clear K
  refine wp_ret ?_
  refine ret1 E rfl rfl ?_
  exact ⟨_, rfl, _, S.tr⟩
theorem zHv (p off : Nat) (l : List Value) (T : TypeId) (z e : Int) (hv : l[off]? = some (.int .i64 z)) (w0 : World) (H : Hp w0 [[(p, cel l T)]]) :
    Ret Tryz.prog 43 #[.int .i64 e, .pointer (some ⟨p, off, none⟩)] w0 fun u w' => u = .int .i64 e ∧ ∃ z', Trs w0 w' [[(p, cel l T)]] [[(p, cel (l.set off (.int .i64 z')) T)]] := by
  have S := St.begin H
  have hself : l.set off (.int .i64 z) = l := by
    apply List.ext_getElem?; intro i
    rw [List.getElem?_set]
    by_cases h : off = i
    · subst h; rw [if_pos rfl, if_pos (List.getElem?_eq_some_iff.1 hv).1, hv]
    · rw [if_neg h]
  refine zCy 10 Tryz.func43 rfl rfl (by decide) ?_; intro a E
  refine wp_seq_k ?_; intro K hK
  refine zAc ?_
  refine zp E (zAg E rfl rfl) ?_; clear E a; intro a E
  refine wpList_nil ?_
  refine zAh hK ?_; clear hK; clear K
  iterate 2 (refine wp_seq_k ?_; intro K hK)
  refine zAc ?_
  refine zp E (zAe E rfl rfl) ?_; clear E a; intro a E
  refine zp E (by first | exact zCf E rfl rfl rfl | exact zAu E rfl rfl rfl rfl | exact zBc E rfl rfl rfl rfl | exact zAw E rfl rfl rfl) ?_; clear E a; intro a E
  refine wpList_nil ?_
  refine zAh hK ?_; clear hK; clear K
  refine zBl E rfl (fun hb => ?_) (fun hb => ?_)
  · replace hb := Nrm.nrm hb
    refine zAc ?_
    refine zp E (zAe E rfl rfl) ?_; clear E a; intro a E
    refine zAr E rfl rfl (by decide) rfl Tryz.func70 rfl (by kernel_rfl) rfl (atadd_ret p off l T z 1 hv _ (S.hp.sel (zAd (by repeat (first | exact pk1 | apply zAa)) (zAk _)))) ?_
    rintro v8 w ⟨z', hT⟩; clear E a; intro a E
    have S := S.call1 (zAd (by repeat (first | exact pk1 | apply zAa)) (zAk _)) hT
    refine wpList_nil ?_
    refine zAh hK ?_; clear hK; clear K
    refine wp_seq_k ?_; intro K hK
    refine zAc ?_
    refine zp E (zAe E rfl rfl) ?_; clear E a; intro a E
    refine zp E (zAg E rfl rfl) ?_; clear E a; intro a E
    refine wpList_nil ?_
    refine zAh hK ?_; clear hK; clear K
    refine wp_ret ?_
    refine ret1 E rfl rfl ?_
    first | exact ⟨_, rfl, rfl, z', S.tr⟩ | exact ⟨_, rfl, rfl, z, by rw [hself]; exact S.tr⟩
  · replace hb := Nrm.nrm hb
    refine wp_skip ?_
    refine zAh hK ?_; clear hK; clear K
    refine wp_seq_k ?_; intro K hK
    refine zAc ?_
    refine zp E (zAe E rfl rfl) ?_; clear E a; intro a E
    refine zp E (zAg E rfl rfl) ?_; clear E a; intro a E
    refine wpList_nil ?_
    refine zAh hK ?_; clear hK; clear K
    refine wp_ret ?_
    refine ret1 E rfl rfl ?_
    first | exact ⟨_, rfl, rfl, z', S.tr⟩ | exact ⟨_, rfl, rfl, z, by rw [hself]; exact S.tr⟩
theorem blame_ret (p d : Nat) (L : zAs) (hL : LfC p d L) (w0 : World) (H : Hp w0 [L]) :
    Ret Tryz.prog 88 #[ptr p] w0 fun _ w' => ∃ L', LfC p d L' ∧ Trs w0 w' [L] [L'] := by
  obtain ⟨u1, u2, u3, u4, r, q, s, rfl⟩ := hL
  have S := St.begin H
  refine zDc 6 Tryz.func88 rfl rfl (by decide) ?_; intro a E
  refine zAc ?_
  refine zp E (zAe E rfl rfl) ?_; clear E a; intro a E
  refine zp E (zAl E rfl rfl) ?_; clear E a; intro a E
  refine zp E (by first | exact zAf (q := 7) E rfl rfl rfl | exact zAi (q := 7) E rfl rfl rfl) ?_; clear E a; intro a E
  refine zAr E rfl rfl (by decide) rfl Tryz.func70 rfl (by kernel_rfl) rfl (atadd_ret p 7 _ _ s 1 rfl _ (S.hp.sel (zAd (by repeat (first | exact pk1 | apply zAa)) (zAk _)))) ?_
  rintro v5 w ⟨z', hT⟩; clear E a; intro a E
  have S := S.call1 (zAd (by repeat (first | exact pk1 | apply zAa)) (zAk _)) hT
  refine wpList_nil ?_
  refine end0 E rfl ?_
  exact ⟨_, rfl, _, ⟨u1, u2, u3, u4, r, q, z', rfl⟩, S.tr⟩
section
variable (p d P : Nat) (R : Rk) (C L : zAs) (hC : RkC P R C) (hd : R.has d) (hL : LfC p d L)
include hC hd hL
theorem zKd (w0 : World) (H : Hp w0 [C, L]) : Ret Tryz.prog 65 #[ptr p] w0 fun u w' => u = .int .i64 (zEl (dkOf R d)) ∧ Trs w0 w' [C, L] [C, L] := by
  obtain ⟨u1, u2, u3, u4, r, q, s, rfl⟩ := hL
  obtain ⟨hx, hxd⟩ := zDb hd
  obtain ⟨x, hxe⟩ : ∃ x, x = dkOf R d := ⟨_, rfl⟩
  rw [← hxe] at hx hxd ⊢
  subst hxd
  have hl := (hC.ok.1.2 x hx).2
  have S := St.begin H
  refine zDc 10 Tryz.func65 rfl rfl (by decide) ?_; intro a E
  refine wp_seq_k ?_; intro K hK
  refine zAc ?_
  refine zp E (zAg E rfl rfl) ?_; clear E a; intro a E
  refine wpList_nil ?_
  refine zAh hK ?_; clear hK; clear K
  refine wp_seq_k ?_; intro K hK
  refine zAc ?_
  refine zp E (zAe E rfl rfl) ?_; clear E a; intro a E
  refine zp E (zAl E rfl rfl) ?_; clear E a; intro a E
  refine zp E (by first | exact zAf (q := 0) E rfl rfl rfl | exact zAi (q := 0) E rfl rfl rfl) ?_; clear E a; intro a E
  refine zp E (by first | exact zAn E rfl rfl rfl (S.get (by repeat (first | exact pk1 | apply zAa))) rfl | exact zAj E rfl rfl rfl (by assumption)) ?_; clear E a; intro a E
  refine zAr E rfl rfl (by decide) rfl Tryz.func39 rfl (by kernel_rfl) rfl (zGe P R C hC x hx _ (S.hp.sel (zAd (by repeat (first | exact pk1 | apply zAa)) (zAk _)))) ?_
  rintro v7 w ⟨rfl, hT⟩; clear E a; intro a E
  have S := S.call1 (zAd (by repeat (first | exact pk1 | apply zAa)) (zAk _)) hT
  iterate 2 (refine zp E (zDf E rfl rfl rfl (w_in (by omega))) ?_; clear E a; intro a E)
  refine zp E (zAg E rfl rfl) ?_; clear E a; intro a E
  refine wpList_nil ?_
  refine zAh hK ?_; clear hK; clear K
  refine wp_ret ?_
  refine ret1 E rfl rfl ?_
  exact ⟨_, rfl, by unfold zEl; congr 1; omega, S.tr⟩
theorem lhas_ret (at_ many : Int) (ha : -9223372036854775808 ≤ at_ ∧ at_ ≤ 9223372036854775807) (w0 : World) (H : Hp w0 [C, L]) : Ret Tryz.prog 44 #[ptr p, .int .i64 at_, .int .i64 many] w0 fun u w' => u = .bool (decide (zIr (dkOf R d) at_ many)) ∧ Trs w0 w' [C, L] [C, L] := by
  have hl := (hC.ok.1.2 _ (zDb hd).1).2
  obtain ⟨z, hz⟩ : ∃ z, z = zEl (dkOf R d) := ⟨_, rfl⟩
  have hzb : -292 ≤ z ∧ z ≤ 8192 := by rw [hz]; unfold zEl; omega
  have hh : ∀ b : Bool, (b = true ↔ (0 ≤ at_ ∧ 0 ≤ many ∧ at_ ≤ z ∧ many ≤ z - at_)) → b = decide (zIr (dkOf R d) at_ many) := fun b h => by
    rw [Bool.eq_iff_iff, decide_eq_true_eq, h]; unfold zIr; rw [← hz]
  have S := St.begin H
  refine zEs 27 Tryz.func44 rfl rfl (by decide) ?_; intro a E
  refine wp_seq_k ?_; intro K hK
  refine zAc ?_
  refine zp E (zAg E rfl rfl) ?_; clear E a; intro a E
  refine wpList_nil ?_
  refine zAh hK ?_; clear hK; clear K
  refine wp_seq_k ?_; intro K hK
  refine zAc ?_
  refine zp E (zAe E rfl rfl) ?_; clear E a; intro a E
  refine zp E (zDs E rfl rfl rfl) ?_; clear E a; intro a E
  refine zp E (zAe E rfl rfl) ?_; clear E a; intro a E
  refine zAy E (t := 9) rfl (fun hb9 => ?_) (fun hb9 => ?_)
  · have hb9n := hb9; replace hb9n := Nrm.nrm hb9n
    refine zy E hb9 (zAe E rfl rfl) ?_; clear E a; intro a E
    refine zy E hb9 (zDs E rfl rfl rfl) ?_; clear E a; intro a E
    refine zp E (zAm E rfl rfl hb9 rfl) ?_; clear E a; intro a E
    refine zp E (zAe E rfl rfl) ?_; clear E a; intro a E
    refine zAy E (t := 13) rfl (fun hb13 => ?_) (fun hb13 => ?_)
    · have hb13n := hb13; replace hb13n := Nrm.nrm hb13n
      iterate 2 (refine zy E hb13 (zAe E rfl rfl) ?_; clear E a; intro a E)
      refine zDg E rfl rfl rfl rfl hb13 ?_; refine zEe E rfl (by decide) rfl Tryz.func65 rfl (by kernel_rfl) rfl (zKd p d P R C L hC hd hL _ (S.hp.sel (zAd (by repeat (first | exact pk1 | apply zAa)) (zAd (by repeat (first | exact pk1 | apply zAa)) (zAk _))))) ?_
      rintro v16 w ⟨rfl, hT⟩; clear E a; intro a E
      have S := S.call2 (zAd (by repeat (first | exact pk1 | apply zAa)) (zAd (by repeat (first | exact pk1 | apply zAa)) (zAk _))) hT; rw [← hz] at E
      refine zy E hb13 (zHz E rfl rfl rfl) ?_; clear E a; intro a E
      refine zp E (zAm E rfl rfl hb13 rfl) ?_; clear E a; intro a E
      refine zp E (zAe E rfl rfl) ?_; clear E a; intro a E
      refine zAy E (t := 19) rfl (fun hb19 => ?_) (fun hb19 => ?_)
      · have hb19n := hb19; replace hb19n := Nrm.nrm hb19n
        iterate 2 (refine zy E hb19 (zAe E rfl rfl) ?_; clear E a; intro a E)
        refine zDg E rfl rfl rfl rfl hb19 ?_; refine zEe E rfl (by decide) rfl Tryz.func65 rfl (by kernel_rfl) rfl (zKd p d P R C L hC hd hL _ (S.hp.sel (zAd (by repeat (first | exact pk1 | apply zAa)) (zAd (by repeat (first | exact pk1 | apply zAa)) (zAk _))))) ?_
        rintro v22 w ⟨rfl, hT⟩; clear E a; intro a E
        have S := S.call2 (zAd (by repeat (first | exact pk1 | apply zAa)) (zAd (by repeat (first | exact pk1 | apply zAa)) (zAk _))) hT; rw [← hz] at E
        refine zy E hb19 (zAe E rfl rfl) ?_; clear E a; intro a E
        refine zy E hb19 (zDf E rfl rfl rfl (w_in (by omega))) ?_; clear E a; intro a E
        refine zy E hb19 (zHz E rfl rfl rfl) ?_; clear E a; intro a E
        refine zp E (zAm E rfl rfl hb19 rfl) ?_; clear E a; intro a E
        refine zp E (zAg E rfl rfl) ?_; clear E a; intro a E
        refine wpList_nil ?_
        refine zAh hK ?_; clear hK; clear K
        refine wp_ret ?_
        refine ret1 E rfl rfl ?_
        refine ⟨_, rfl, congrArg _ (hh _ ?_), S.tr⟩
        first | (simp; omega) | (simp only [decide_eq_true_eq]; omega) | (simp only [Bool.false_eq_true, false_iff]; omega)
      · have hb19n := hb19; replace hb19n := Nrm.nrm hb19n
        iterate 6 (refine zn E hb19 ?_; clear E a; intro a E)
        refine zp E (zAq E rfl rfl hb19 rfl) ?_; clear E a; intro a E
        refine zp E (zAg E rfl rfl) ?_; clear E a; intro a E
        refine wpList_nil ?_
        refine zAh hK ?_; clear hK; clear K
        refine wp_ret ?_
        refine ret1 E rfl rfl ?_
        refine ⟨_, rfl, congrArg _ (hh _ ?_), S.tr⟩
        first | (simp; omega) | (simp only [decide_eq_true_eq]; omega) | (simp only [Bool.false_eq_true, false_iff]; omega)
    · have hb13n := hb13; replace hb13n := Nrm.nrm hb13n
      iterate 4 (refine zn E hb13 ?_; clear E a; intro a E)
      refine zp E (zAq E rfl rfl hb13 rfl) ?_; clear E a; intro a E
      refine zp E (zAe E rfl rfl) ?_; clear E a; intro a E
      iterate 6 (refine zn E rfl ?_; clear E a; intro a E)
      refine zp E (zAq E rfl rfl rfl rfl) ?_; clear E a; intro a E
      refine zp E (zAg E rfl rfl) ?_; clear E a; intro a E
      refine wpList_nil ?_
      refine zAh hK ?_; clear hK; clear K
      refine wp_ret ?_
      refine ret1 E rfl rfl ?_
      refine ⟨_, rfl, congrArg _ (hh _ ?_), S.tr⟩
      first | (simp; omega) | (simp only [decide_eq_true_eq]; omega) | (simp only [Bool.false_eq_true, false_iff]; omega)
  · have hb9n := hb9; replace hb9n := Nrm.nrm hb9n
    iterate 2 (refine zn E hb9 ?_; clear E a; intro a E)
    refine zp E (zAq E rfl rfl hb9 rfl) ?_; clear E a; intro a E
    refine zp E (zAe E rfl rfl) ?_; clear E a; intro a E
    iterate 4 (refine zn E rfl ?_; clear E a; intro a E)
    refine zp E (zAq E rfl rfl rfl rfl) ?_; clear E a; intro a E
    refine zp E (zAe E rfl rfl) ?_; clear E a; intro a E
    iterate 6 (refine zn E rfl ?_; clear E a; intro a E)
    refine zp E (zAq E rfl rfl rfl rfl) ?_; clear E a; intro a E
    refine zp E (zAg E rfl rfl) ?_; clear E a; intro a E
    refine wpList_nil ?_
    refine zAh hK ?_; clear hK; clear K
    refine wp_ret ?_
    refine ret1 E rfl rfl ?_
    refine ⟨_, rfl, congrArg _ (hh _ ?_), S.tr⟩
    first | (simp; omega) | (simp only [decide_eq_true_eq]; omega) | (simp only [Bool.false_eq_true, false_iff]; omega)
end
end Go.Proofs.YtidhehcjafoneaaGreatDoor
