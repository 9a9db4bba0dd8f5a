/-
  What is laid down is read as it was, and what is read is laid down as it was: requests, plain.
-/
import Derived.Test.YtjhmjdgdgpgcdaaDoorFrameW
namespace Go.Sl
/-- A reader that stands between these. -/
def At (pre post : List UInt8) : Rdr := ⟨pre ++ post, pre.length, 0⟩
theorem At.drop (pre post : List UInt8) : (At pre post).bs.drop (At pre post).at_ = post := List.drop_left
theorem At.num {pre post : List UInt8} {n k : Nat} (h1 : 1 ≤ k) (h8 : k ≤ 8) (hn : n < 256 ^ k) : (At pre (formOf n k ++ post)).num k = (n, At (pre ++ formOf n k) post) := by
  unfold At
  rw [rnum_at _ h1 h8 (by simp [formOf_length]), List.drop_left, List.take_left' (formOf_length n k), numOf_form, Nat.mod_eq_of_lt hn]
  simp [formOf_length]
theorem At.bytes (pre d post : List UInt8) : (At pre (d ++ post)).bytes d.length = (d, At (pre ++ d) post) := by
  unfold At
  rw [rbytes_at _ (by simp), List.drop_left, List.take_left]
  simp
theorem At.text {pre t post : List UInt8} {most : Nat} (h1 : t.length ≤ most) (h2 : t.length < 65536) : (At pre (txtB t ++ post)).text most = (t, At (pre ++ txtB t) post) := by
  have hc : (At pre (txtB t ++ post)).cut 2 0 = formOf t.length 2 := by
    rw [Rdr.cut, Nat.add_zero, At.drop, txtB, List.append_assoc, List.take_left' (formOf_length _ _)]
  have hn : numOf (formOf t.length 2) = t.length := by rw [numOf_form, Nat.mod_eq_of_lt (by rw [p2]; omega)]
  have hc2 : (At pre (txtB t ++ post)).cut t.length 2 = t := by
    rw [Rdr.cut, ← List.drop_drop, At.drop, txtB, List.append_assoc, List.drop_left' (formOf_length _ _), List.take_left]
  have hl : (At pre (txtB t ++ post)).bs.length = pre.length + (t.length + 2 + post.length) := by simp [At, txtB_length]
  have ha : (At pre (txtB t ++ post)).at_ = pre.length := rfl
  have he : (At pre (txtB t ++ post)).e = 0 := rfl
  unfold Rdr.text
  rw [if_neg (by rw [he]; omega), if_neg (by rw [hl, ha]; omega), hc, hn, if_neg (by omega), if_neg (by rw [hl, ha]; omega), hc2]
  simp [At, txtB_length]; omega
theorem At.done (pre : List UInt8) : (At pre []).done = 0 := by simp [At, Rdr.done]
theorem dataD_at {pre d : List UInt8} (h : d.length < 65536) : dataD (At pre (formOf d.length 2 ++ d)) = (d, At (pre ++ (formOf d.length 2 ++ d)) []) := by
  have e := @At.num pre d d.length 2 (by omega) (by omega) (by rw [p2]; omega)
  unfold dataD
  rw [show ((2 : Nat) : Int) = 2 from rfl] at e
  rw [e]
  have := At.bytes (pre ++ formOf d.length 2) d []
  rw [List.append_nil] at this
  rw [this, List.append_assoc]
theorem dataP_at {pre d : List UInt8} {most : Nat} (h : d.length < 65536) (h2 : d.length ≤ most) : dataP most (At pre (formOf d.length 2 ++ d)) = (d, At (pre ++ (formOf d.length 2 ++ d)) []) := by
  have e := @At.num pre d d.length 2 (by omega) (by omega) (by rw [p2]; omega)
  rw [← dataD_at h]
  unfold dataP dataD
  rw [show ((2 : Nat) : Int) = 2 from rfl] at e
  rw [e, if_neg (by simp; omega)]
/-- A frame opened. -/
theorem frm_drop4 (x : List UInt8) : (frm x).drop 4 = x ++ formOf (shaF x).a 8 := by
  unfold frm; rw [List.append_assoc, List.drop_left' (formOf_length _ _)]
theorem opX_frm (x : List UInt8) : opX (frm x) = x := by
  unfold opX; rw [frm_drop4, frm_length, List.take_left' (by omega)]
theorem opE_frm {x : List UInt8} {k : Nat} (hk : k < 256) (hl : x.length ≤ 65524) : opE (frm (UInt8.ofNat k :: x)) k = if x.length = 65524 then 230 else 0 := by
  have hlen := frm_length (UInt8.ofNat k :: x)
  rw [List.length_cons] at hlen
  have hn : nm (frm (UInt8.ofNat k :: x)) 0 4 = x.length + 1 + 8 := by
    have := nm_form [] (UInt8.ofNat k :: x ++ formOf (shaF (UInt8.ofNat k :: x)).a 8) (x.length + 1 + 8) (q := 0) (k := 4) rfl (by rw [p4]; omega)
    rw [List.nil_append] at this
    rw [frm, List.length_cons, List.append_assoc]; exact this
  have hd : (frm (UInt8.ofNat k :: x)).drop ((frm (UInt8.ofNat k :: x)).length - 8) = formOf (shaF (opX (frm (UInt8.ofNat k :: x)))).a 8 := by
    rw [opX_frm, hlen, show x.length + 1 + 12 - 8 = 4 + (x.length + 1) by omega, ← List.drop_drop, frm_drop4, List.drop_left' (by simp)]
  have hk1 : nm (opX (frm (UInt8.ofNat k :: x))) 0 1 = k := by rw [opX_frm]; simp [nm, numOf]; omega
  unfold opE
  by_cases h : x.length = 65524
  · rw [if_pos (by omega), if_pos h]
  · rw [if_neg (fun q => q (by omega)), if_neg (by omega), if_neg (fun q => q hd), if_neg (by omega), if_neg h]
theorem rqP_back {r : Rq} (h : r.may) {f : Rdr → List UInt8 × Rdr} (hf : ∀ pre, f (At pre (formOf r.data.length 2 ++ r.data)) = (r.data, At (pre ++ (formOf r.data.length 2 ++ r.data)) [])) (pre : List UInt8) :
    rqP f (At pre (rqB r)) = (r, At (pre ++ rqB r) []) := by
  obtain ⟨m1, m2, m3, m4, m5, m6, m7, m8, m9, m10, m11, m12, m13, m14, m15⟩ := h
  have e1 := p1
  have e4 := p4
  have e6 := p6
  obtain ⟨ses, id, verb, name, item, other, path, at_, many, data⟩ := r
  simp only at *
  obtain ⟨sn, rfl⟩ : ∃ n : Nat, ses = n := ⟨ses.toNat, by omega⟩
  obtain ⟨idn, rfl⟩ : ∃ n : Nat, id = n := ⟨id.toNat, by omega⟩
  obtain ⟨vn, rfl⟩ : ∃ n : Nat, verb = n := ⟨verb.toNat, by omega⟩
  obtain ⟨an, rfl⟩ : ∃ n : Nat, at_ = n := ⟨at_.toNat, by omega⟩
  obtain ⟨mn, rfl⟩ : ∃ n : Nat, many = n := ⟨many.toNat, by omega⟩
  have hB : rqB ⟨sn, idn, vn, name, item, other, path, an, mn, data⟩ = formOf sn 1 ++ (formOf idn 4 ++ (formOf vn 1 ++ (txtB name ++ (txtB item ++ (txtB other ++ (txtB path ++ (formOf an 6 ++ (formOf mn 6 ++ (formOf data.length 2 ++ data))))))))) := by
    simp [rqB, Rq.strs]
  have a1 : ∀ pre post, (At pre (formOf sn 1 ++ post)).num 1 = (sn, At (pre ++ formOf sn 1) post) := fun pre post => @At.num pre post sn 1 (by omega) (by omega) (by omega)
  have a2 : ∀ pre post, (At pre (formOf idn 4 ++ post)).num 4 = (idn, At (pre ++ formOf idn 4) post) := fun pre post => @At.num pre post idn 4 (by omega) (by omega) (by omega)
  have a3 : ∀ pre post, (At pre (formOf vn 1 ++ post)).num 1 = (vn, At (pre ++ formOf vn 1) post) := fun pre post => @At.num pre post vn 1 (by omega) (by omega) (by omega)
  have a4 : ∀ pre post, (At pre (formOf an 6 ++ post)).num 6 = (an, At (pre ++ formOf an 6) post) := fun pre post => @At.num pre post an 6 (by omega) (by omega) (by omega)
  have a5 : ∀ pre post, (At pre (formOf mn 6 ++ post)).num 6 = (mn, At (pre ++ formOf mn 6) post) := fun pre post => @At.num pre post mn 6 (by omega) (by omega) (by omega)
  have t1 : ∀ pre post, (At pre (txtB name ++ post)).text 240 = (name, At (pre ++ txtB name) post) := fun pre post => @At.text pre name post 240 (by omega) (by omega)
  have t2 : ∀ pre post, (At pre (txtB item ++ post)).text 240 = (item, At (pre ++ txtB item) post) := fun pre post => @At.text pre item post 240 (by omega) (by omega)
  have t3 : ∀ pre post, (At pre (txtB other ++ post)).text 240 = (other, At (pre ++ txtB other) post) := fun pre post => @At.text pre other post 240 (by omega) (by omega)
  have t4 : ∀ pre post, (At pre (txtB path ++ post)).text 240 = (path, At (pre ++ txtB path) post) := fun pre post => @At.text pre path post 240 (by omega) (by omega)
  rw [hB]
  simp only [rqP, sT, tT]
  rw [a1, a2, a3, t1, t2, t3, t4, a4, a5, hf]
  simp
/-- What was laid down is read as it was. -/
theorem rqF_back {r : Rq} (h : r.may) {f : Rdr → List UInt8 × Rdr} (hf : ∀ pre, f (At pre (formOf r.data.length 2 ++ r.data)) = (r.data, At (pre ++ (formOf r.data.length 2 ++ r.data)) [])) : rqF f (rqO r) = (r, 0) := by
  have hs := rqB_small h
  have h1 := @opE_frm (rqB r) 1 (by omega) (by omega)
  rw [if_neg (by omega), show UInt8.ofNat 1 = (1 : UInt8) from rfl] at h1
  have hP := rqP_back h hf [1]
  rw [show At [1] (rqB r) = ⟨1 :: rqB r, 1, 0⟩ from rfl] at hP
  rw [rqO_yes h]
  unfold rqF
  rw [opX_frm, h1, hP, if_neg (by omega), if_pos ⟨At.done _, h⟩]
theorem rqF_backP {r : Rq} (h : r.may) : rqF (dataP 2048) (rqO r) = (r, 0) :=
  have hd : r.data.length ≤ 2048 := by unfold Rq.may at h; omega
  rqF_back h fun pre => dataP_at (by omega) hd
theorem rqF_backD {r : Rq} (h : r.may) : rqF dataD (rqO r) = (r, 0) :=
  have hd : r.data.length ≤ 2048 := by unfold Rq.may at h; omega
  rqF_back h fun pre => dataD_at (by omega)
end Go.Sl
