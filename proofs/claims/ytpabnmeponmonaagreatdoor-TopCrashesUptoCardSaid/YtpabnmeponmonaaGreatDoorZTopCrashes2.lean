/-
  2.
-/
import Derived.Test.YtpabnmeponmonaaGreatDoorZTopCrashes1
set_option maxRecDepth 10000
set_option maxHeartbeats 4000000
open List Go.Proofs.Tryz Go.Sl
namespace Go.Sl
section
variable {A B1 B2 B3 B4 B5 B6 B7 B8 B9 B10 B11 B12 B13 B14 B15:Chunk}{L:List Chunk}
theorem pk1:(A :: L).Perm (A :: L):=kR _ _
end
abbrev ptr (p:Nat):Value:=.pointer (some ⟨p,0,none⟩)
section
variable {x y:Nat}{z:Int}
theorem wa1 (h:x+y<9223372036854775808):IntKind.i64.wrap ((x:Int)+(y:Int))=((x+y:Nat):Int):=by rw [IntWalk.i64_in _ (by omega)];omega
theorem N4 (h:x+y<9223372036854775808):IntKind.i64.wrap ((x:Int)+(OfNat.ofNat y:Int))=((x+y:Nat):Int):=wa1 h
theorem ws1 (h:y<=x)(h':x<9223372036854775808):IntKind.i64.wrap ((x:Int) - (y:Int))=((x - y:Nat):Int):=by rw [IntWalk.i64_in _ (by omega)];omega
theorem wm1 (h:x*y<9223372036854775808):IntKind.i64.wrap ((x:Int)*(y:Int))=((x*y:Nat):Int):=by
  have h2:((x*y:Nat):Int)<9223372036854775808:=oZ
  rw [Int.natCast_mul] at h2
  rw [IntWalk.i64_in _ ⟨by have:(0:Int)<=(x:Int)*(y:Int):=by rw [<-Int.natCast_mul];omega
                           omega,by omega⟩,Int.natCast_mul]
theorem YO (h':x<9223372036854775808):IntKind.i64.wrap (((x:Int)).tdiv (OfNat.ofNat y:Int))=((x / y:Nat):Int):=by
 have e:((x:Int)).tdiv (OfNat.ofNat y:Int)=((x / y:Nat):Int):=by
  show ((x:Int)).tdiv (y:Int)=_
  rw [Int.tdiv_eq_ediv_of_nonneg (by omega)];rfl
 have h2:=Nat.div_le_self x y
 rw [e]
 generalize x / y=q at *
 exact IntWalk.i64_in _ (by omega)
theorem YP:((x:Int)).tmod (OfNat.ofNat y:Int)=((x % y:Nat):Int):=by
 show ((x:Int)).tmod (y:Int)=_
 rw [Int.tmod_eq_emod_of_nonneg (by omega)];rfl
theorem N5 (h:x<9223372036854775808):IntKind.i64.wrap (x:Int)=(x:Int):=IntWalk.i64_in _ (by omega)
theorem Gx (h:x<18446744073709551616):IntKind.u64.wrap (x:Int)=(x:Int):=IntWalk.u64_in _ (by omega)
theorem YQ (h : -9223372036854775808<=z/\z<=9223372036854775807):IntKind.i64.wrap z=z:=IntWalk.i64_in _ h
theorem N6 (h:0<=z/\z<=18446744073709551615):IntKind.u64.wrap z=z:=IntWalk.u64_in _ h
theorem wu8 (b:UInt8):IntKind.u64.wrap (b.toNat:Int)=(b.toNat:Int):=IntWalk.u64_in _ (by have:=b.toNat_lt;omega)
theorem w8 (n:Nat):IntKind.u8.wrap (n:Int)=((UInt8.ofNat n).toNat:Int):=by rw [IntKind.wrap_u8];simp
end
section
theorem abt {x j:Nat}(h:x*2 ^ j<18446744073709551616):IntKind.u64.wrap ((x:Int)*2 ^ ((j:Nat):Int).toNat)=((x*2 ^ j:Nat):Int):=by
 have e:((x:Int)*2 ^ ((j:Nat):Int).toNat)=((x*2 ^ j:Nat):Int):=by simp
 rw [e];exact Gx h
theorem aeh {x j:Nat}:((x:Int) / 2 ^ ((j:Nat):Int).toNat)=((x / 2 ^ j:Nat):Int):=by simp
theorem oru {p q j:Nat}(hp:p<2 ^ j)(h:p+q*2 ^ j<18446744073709551616):bits .or .u64 (p:Int) ((q*2 ^ j:Nat):Int)=((p+q*2 ^ j:Nat):Int):=by
 have h1:p ||| q*2 ^ j=p+q*2 ^ j:=by
  rw [Nat.or_comm,Nat.mul_comm,<-Nat.two_pow_add_eq_or_of_lt hp,Nat.add_comm]
 have h2:∀z:Nat,z<18446744073709551616->(BitVec.ofInt 64 (z:Int)).toNat=z:=fun z hz=>by
  rw [BitVec.ofInt_natCast,BitVec.toNat_ofNat];exact Nat.mod_eq_of_lt hz
 show IntKind.u64.wrap (((BitVec.ofInt 64 (p:Int) ||| BitVec.ofInt 64 ((q*2 ^ j:Nat):Int)).toNat:Nat):Int)=_
 rw [BitVec.toNat_or,h2 p (by omega),h2 _ (by omega),h1]
 exact Gx h
end
theorem n1 {p:Prop}[Decidable p](h:decide p=true):p:=of_decide_eq_true h
theorem n2 {p:Prop}[Decidable p](h:decide p=false):¬p:=of_decide_eq_false h
theorem n3 {p q:Int}(h:(p==q)=true):p=q:=by simpa using h
theorem n4 {p q:Int}(h:(p==q)=false):p≠q:=by simpa using h
theorem n5 {p q:Int}(h:(p != q)=true):p≠q:=by simpa using h
theorem n6 {p q:Int}(h:(p != q)=false):p=q:=by simpa using h
class Ku (p:Prop) (q:outParam Prop):Prop where
 nrm:p->q
instance (priority:=10) agx {p:Prop}:Ku p p:=⟨id⟩
instance agy {p:Prop} [Decidable p]:Ku (decide p=true) p:=⟨n1⟩
instance agz {p:Prop} [Decidable p]:Ku (decide p=false) (¬p):=⟨n2⟩
instance agA {p q:Int}:Ku ((p==q)=true) (p=q):=⟨n3⟩
instance agB {p q:Int}:Ku ((p==q)=false) (p≠q):=⟨n4⟩
instance agC {p q:Int}:Ku ((p != q)=true) (p≠q):=⟨n5⟩
instance agD {p q:Int}:Ku ((p != q)=false) (p=q):=⟨n6⟩
section
variable {a:Act}{n:Nat}{e:List (Nat×Value)}{ds:List Deferred}{t:Nat}{b:Bool}{G:Prop}
theorem guard_true (_:Fr a n e ds)(_:lk e t=some (.bool b))(hb:b=true)(h:b=true->G):G:=h hb
theorem guard_false (_:Fr a n e ds)(_:lk e t=some (.bool b))(hb:b=false)(h:b=false->G):G:=h hb
end
section
variable {P:Program}{id:Nat}{l:List Oper}{ops:Array Oper}{Q:Exit->Act->World->Prop}{a:Act}{w w0:World}{As Ls:List Chunk}
end
def TD (P:Program)(f:FuncId)(args:Array Value)(w:World)(R:Value->World->Prop):Prop:=Calls P f args w fun e w'=>∃v,e = .returned v/\R v w'
theorem TD.mono {P:Program}{f:FuncId}{args:Array Value}{w:World}{R R':Value->World->Prop}(h:TD P f args w R)(k:∀v w',R v w'->R' v w'):TD P f args w R' :=
 Calls.mono h fun _ _ ⟨v,he,hr⟩=>⟨v,he,k v _ hr⟩
section
variable {P:Program}{ops:Array Oper}{Q:Exit->Act->World->Prop}{a:Act}{w w':World}{rest:List Oper}{o:Oper}{n d i:Nat}{e:List (Nat×Value)}{ds:List Deferred}{Ms:List Chunk}{r:aB}
 {g:Operand} {xs:List Operand} {ts:Array TypeId} {f:FuncId} {fn:Func} {vs cap:List Value} {R:Value->World->Prop} {K:Act->World->Prop}
end
def au (bs:List UInt8):List Value:=bs.map fun b=>.int .u8 b.toNat
theorem aq (bs:List UInt8):(au bs).length=bs.length:=by simp [au]
theorem aP (bs:List UInt8):∀u∈au bs,u.oneCell'=true:=by intro u hu;obtain ⟨b,_,rfl⟩:=mem_map.1 hu;rfl
theorem aG (xs ys:List UInt8):au (xs++ys)=au xs++au ys:=by simp [au]
theorem aQ (k:Nat)(xs:List UInt8):(au xs).take k=au (xs.take k):=by simp [au,map_take]
theorem bo (k:Nat)(xs:List UInt8):(au xs).drop k=au (xs.drop k):=by simp [au,map_drop]
section
variable {P:Program}{a:Act}{w:World}{o:Oper}{n:Nat}{e:List (Nat×Value)}{ds:List Deferred}{x y z:Operand}{v u:Value}{C:Chunk}
theorem vb (E:Fr a n e ds){t:TypeId}{bs:List UInt8}(ho:o.op = .call { callee:=.builtin .len,args:=#[x],argTypes:=#[t] })(hx:ev e x=some (str bs))
  (ht:P.underlying t=some .string):ab P o a w (.int .i64 bs.length) w:=by
 have h:=oY (w:=w) E ho hx ht
 simpa [ByteArray.size] using h
theorem kV (E:Fr a n e ds){t:TypeId}{b j:Nat}(ho:o.op = .load t x)(hx:ev e x=some (.pointer (some ⟨b,j,none⟩)))(ht:scalar P t=true)
  (hc:w.cell? ⟨b,j,none⟩=some v):ab P o a w v w:=by
 simp [ab,execOp,ho,E.eval hx,Instr.loadAt,Instr.sureAddr,loadVar,dX ht,hc]
theorem pd (E:Fr a n e ds){t el:TypeId}{b off l c i:Nat}{k:IntKind}{q:Int}(ho:o.op = .indexAddr t x y)(hx:ev e x=some (.slice (some ⟨b,off,none⟩) l c))(hy:ev e y=some (.int k q))
  (ht:P.underlying t=some (.slice el)) (hs:(P.info? el).map (·.size)=some 1) (hq:q=(i:Int)) (hi:i<l):ab P o a w (.pointer (some ⟨b,off+i,none⟩)) w:=by
 have h:=jr (w:=w) E ho hx hy ht hs hq hi
 rwa [Nat.mul_one] at h
theorem Kv (E:Fr a n e ds){t t' el:TypeId}{bs:List UInt8}(ho:o.op = .convert t t' x)(hx:ev e x=some v)(ht:P.underlying t=some (.slice el))(Kw:P.underlying el=some (.int .u8))(hd:P.underlying t'=some .string)
  (hR:Rd C 1 v bs.length (au bs)) (hC:∀x∈C,w.heap[x.1]? = some x.2):ab P o a w (str bs) w:=by
 have key:(convert t t' v).run P w = .ok (str bs) w:=by
  have N3:=hR.src (P:=P) (w:=w) (tx:=t) (e':=el) hC ht
  obtain ⟨ad,c,rfl⟩:=hR.slice
  cases ad with
  | none =>
   rcases hR.2.2.2 with ⟨h0,_⟩ | ⟨b,off,c',l,T,fr,h,_⟩
   ·have:bs=[]:=eq_nil_of_length_eq_zero h0
    subst this
    rw [run_convert_bytes_nil w t el ht Kw _ c t' hd];rfl
   ·cases h
  | some ad =>
   have h1:=N3.cells
   simp only [Builtin.firstCells,Nat.mul_one] at h1
   have h2:(loadCells ad bs.length).run P w = .ok ((bs.map fun b=>(b.toNat:Int)).map (Value.int .u8)).toArray w:=by
    rw [h1];simp [au,Function.comp_def]
   rw [run_convert_bytes_string w t t' el (some ad) bs.length c ht Kw hd,run_bytesToString w ad bs.length c _ h2]
   congr 2
   have h3:∀(bs:List UInt8) (s:ByteArray),(bs.map fun b=>(b.toNat:Int)).foldl (fun r n=>r.push (UInt8.ofNat n.toNat)) s=⟨s.data++bs.toArray⟩:=by
    intro bs
    induction bs with
    | nil=>intro s;simp
    | cons b r ih =>
     intro s
     simp only [map_cons,foldl_cons,ih]
     congr 1
     simp [ByteArray.push]
   rw [h3]
   simp [ByteArray.empty,ByteArray.emptyWithCapacity];rfl
 simp [ab,execOp,ho,E.eval hx,key]
theorem Rd.piece {s m:Nat}{xs:List Value}(h:Rd C s v m xs){ad:Option Addr}{c:Nat}(hv:v = .slice ad m c){lo hi mx:Nat}(h1:lo<=hi)(h2:hi<=m)(h3:hi<=mx) :
  Rd C s (sliced ad lo hi mx s) (hi - lo) ((xs.drop (lo*s)).take ((hi - lo)*s)):=by
 subst hv
 have hl:((xs.drop (lo*s)).take ((hi - lo)*s)).length=(hi - lo)*s:=by
  rw [length_take,length_drop,h.1,<-Nat.sub_mul]
  exact Nat.min_eq_left (Nat.mul_le_mul_right _ (by omega))
 refine ⟨hl,fun u hu=>h.2.1 u (mem_of_mem_drop (mem_of_mem_take hu)),by have:=h.2.2.1;omega, ?_⟩
 by_cases h0:hi - lo=0
 ·refine .inl ⟨h0, ?_⟩
  simp only [sliced,h0]
  exact ⟨_,_,rfl⟩
 ·rcases h.2.2.2 with ⟨rfl,_⟩ | ⟨b,off,c',l,T,fr,hv,hm,hc⟩
  ·omega
  ·cases hv
   refine .inr ⟨b,off+lo*s,mx - lo,l,T,fr,by simp [sliced,show ¬mx=lo by omega,Addr.add_lit],hm,fun i u hu => ?_⟩
   have jQ:i<(hi - lo)*s:=by
    have:=(List.getElem?_eq_some_iff.1 hu).1
    rw [hl] at this;exact this
   rw [getElem?_take_of_lt jQ,getElem?_drop] at hu
   rw [Nat.add_assoc]
   exact hc _ _ hu
theorem Rd.addr {s m c:Nat}{ad:Option Addr}{xs:List Value}(h:Rd C s (.slice ad m c) m xs)(hm:0<m):∃b off,ad=some ⟨b,off,none⟩:=by
 rcases h.2.2.2 with ⟨rfl,_⟩ | ⟨b,off,c',l,T,fr,hv,_⟩
 ·omega
 ·cases hv;exact ⟨b,off,rfl⟩
theorem Rd.TE {P:Program}{tx e':TypeId}{m:Nat}{xs:List Value}(h:Rd C 1 v m xs)(hC:∀x∈C,w.heap[x.1]? = some x.2)(hk:P.underlying tx=some (.slice e')) :
  ∀k,k<=m->Src P 1 tx v m xs w/\(Builtin.firstCells 1 k v).run P w = .ok (xs.take k).toArray w:=by
 intro k hkm
 have hs:=h.src (P:=P) hC hk
 refine ⟨hs, ?_⟩
 rcases h.2.2.2 with ⟨rfl,ad,c,rfl⟩ | ⟨b,off,c,l,T,fr,rfl,hm,hc⟩
 ·have h0:xs=[]:=eq_nil_of_length_eq_zero (by simpa using h.1)
  subst h0
  have xT:k=0:=oZ
  subst xT
  exact hs.cells
 ·have hl:(xs.take k).length=k*1:=by rw [length_take,h.1];omega
  exact run_firstCells_some w 1 k ⟨b,off,none⟩ _ c (xs.take k) hl fun j u hu=>by
   have hj:j<k:=by have:=(List.getElem?_eq_some_iff.1 hu).1;rw [hl] at this;omega
   rw [getElem?_take_of_lt hj] at hu
   rw [Addr.add_lit]
   exact h.cells hC rfl j u hu
theorem N7 {k:Nat}{l ys:List Value}{m d:Nat}(h:ys.length=m/\l.length=m/\d=m/\k=0):l.take k++ys.take (min m d)++l.drop (k+min m d)=ys:=by
 obtain ⟨rfl,h2,rfl,rfl⟩:=h
 simp [h2]
theorem CO (E:Fr a n e ds){t el:TypeId}{s l c lo hi:Nat}{ad:Option Addr}{k1 k2:IntKind}{q r:Int}(ho:o.op = .slice t x (some y) (some z) none)(hx:ev e x=some (.slice ad l c))(hy:ev e y=some (.int k1 q))(hz:ev e z=some (.int k2 r))
  (ht:P.underlying t=some (.slice el)) (hs:(P.info? el).map (·.size)=some s) (hq:q=(lo:Int)) (hr:r=(hi:Int)) (h1:lo<=hi) (h2:hi<=c):ab P o a w (sliced ad lo hi c s) w:=by
 subst hq hr
 have e1:P.elem t=el:=by simp [Program.elem,ht]
 have:=Go.run_slice_lh (P:=P) w t ad l c (by rw [e1];exact ht) k1 k2 (lo:Int) (hi:Int) (by omega) (by omega) (by omega)
 rw [e1,run_sizeOf hs] at this
 simp [ab,execOp,ho,E.eval hx,E.eval hy,E.eval hz,run_sliceAt_slice w t _ _ _ _ (by rw [e1];exact ht),this]
theorem Gy (E:Fr a n e ds){t el:TypeId}{s l c hi:Nat}{ad:Option Addr}{k2:IntKind}{r:Int}(ho:o.op = .slice t x none (some z) none)(hx:ev e x=some (.slice ad l c))(hz:ev e z=some (.int k2 r))
  (ht:P.underlying t=some (.slice el)) (hs:(P.info? el).map (·.size)=some s) (hr:r=(hi:Int)) (h2:hi<=c):ab P o a w (sliced ad 0 hi c s) w:=by
 subst hr
 have e1:P.elem t=el:=by simp [Program.elem,ht]
 have:=Go.run_slice_h (P:=P) w t ad l c (by rw [e1];exact ht) k2 (hi:Int) (by omega) (by omega)
 rw [e1,run_sizeOf hs] at this
 simp [ab,execOp,ho,E.eval hx,E.eval hz,run_sliceAt_slice w t _ _ _ _ (by rw [e1];exact ht),this]
theorem Gz (E:Fr a n e ds){t el:TypeId}{s l c lo:Nat}{ad:Option Addr}{k1:IntKind}{q:Int}(ho:o.op = .slice t x (some y) none none)(hx:ev e x=some (.slice ad l c))(hy:ev e y=some (.int k1 q))
  (ht:P.underlying t=some (.slice el)) (hs:(P.info? el).map (·.size)=some s) (hq:q=(lo:Int)) (h1:lo<=l):ab P o a w (sliced ad lo l c s) w:=by
 subst hq
 have e1:P.elem t=el:=by simp [Program.elem,ht]
 have:=Go.run_slice_l (P:=P) w t ad l c (by rw [e1];exact ht) k1 (lo:Int) (by omega) (by omega)
 rw [e1,run_sizeOf hs] at this
 simp [ab,execOp,ho,E.eval hx,E.eval hy,run_sliceAt_slice w t _ _ _ _ (by rw [e1];exact ht),this]
def qp (e:List (Nat×Value)):List (Nat×Operand)->Option (List (Nat×Value))
 | []=>some []
 | (i,x) :: r=>match ev e x,qp e r with
  | some v,some vs=>some ((i,v) :: vs)
  | _,_=>none
theorem Fr.qp (E:Fr a n e ds):∀ {xs:List (Nat×Operand)} {vs:List (Nat×Value)},Sl.qp e xs=some vs->xs.map (fun p=>(p.1,a.eval p.2))=vs
 | [],vs,h=>by simp only [Sl.qp,Option.some.injEq] at h;subst h;rfl
 | (i,x) :: r,vs,h=>by
  simp only [Sl.qp] at h
  split at h
  ·rename_i v us h1 h2
   cases h
   rw [map_cons,E.eval h1,E.qp h2]
  ·cases h
def kq (place:Nat->Option (Nat×Nat)):List Value->List (Nat×Value)->Option (List Value)
 | cs,[]=>some cs
 | cs,(i,v) :: r=>match place i with
  | none=>none
  | some (off,size)=>match v with
   | .agg vs=>if vs.toList.length=size/\off+vs.toList.length<=cs.length then kq place (cs.take off++vs.toList++cs.drop (off+vs.toList.length)) r else none
   | v=>if size=1/\off+1<=cs.length then kq place (cs.set off v) r else none
theorem CP (off:Nat):∀(vs:List Value) (j:Nat) (cs:Array Value),off+j+vs.length<=cs.size ->
  (vs.zipIdx j).foldl (fun cs (c,j)=>cs.setIfInBounds (off+j) c) cs=(cs.toList.take (off+j)++vs++cs.toList.drop (off+j+vs.length)).toArray
 | [],j,cs,_=>by simp
 | v :: r,j,cs,h=>by
  simp only [length_cons] at h
  rw [zipIdx_cons,foldl_cons,CP off r (j+1) _ (by simp;omega)]
  apply congrArg List.toArray
  simp only [Array.toList_setIfInBounds,length_cons]
  have h1:off+j<cs.toList.length:=by simp;omega
  rw [set_eq_take_append_cons_drop,if_pos h1]
  rw [show off+(j+1)=(cs.toList.take (off+j)).length+1 by simp;omega,take_append]
  simp only [Nat.add_sub_cancel_left,take_succ_cons,take_zero]
  rw [take_of_length_le (by omega)]
  have h2:(cs.toList.take (off+j)).length=off+j:=by simp;omega
  rw [h2,show off+j+1+r.length=(cs.toList.take (off+j)).length+(r.length+1) by rw [h2];omega,drop_append,drop_of_length_le (by omega)]
  simp only [h2,append_assoc,cons_append,nil_append,nil_append]
  rw [show off+j+(r.length+1) - (off+j)=r.length+1 by omega,drop_succ_cons,drop_drop]
  congr 4
  omega
theorem fill_eq (place:Nat->Option (Nat×Nat)):∀(qs:List (Nat×Value)) (cs out:List Value),kq place cs qs=some out->Instr.fill place cs.toArray qs=some out.toArray
 | [],cs,out,h=>by simp only [kq,Option.some.injEq] at h;subst h;rfl
 | (i,v) :: r,cs,out,h=>by
  unfold kq at h
  unfold Instr.fill
  cases hp:place i with
  | none=>simp [hp] at h
  | some q =>
   obtain ⟨off,size⟩:=q
   simp only [hp] at h ⊢
   by_cases hag:∃vs,v = .agg vs
   ·obtain ⟨vs,rfl⟩:=hag
    simp only at h
    split at h
    ·rename_i hc
     obtain ⟨h1,h2⟩:=hc
     simp only [Array.length_toList] at h1 h2
     rw [if_neg (by simp [Value.cells,h1];omega)]
     have e1:(Value.agg vs).cells.zipIdx.foldl (fun cs (c,j)=>cs.setIfInBounds (off+j) c) cs.toArray=(cs.take off++vs.toList++cs.drop (off+vs.toList.length)).toArray:=by
      have:=CP off vs.toList 0 cs.toArray (by simpa using h2)
      rw [<-Array.foldl_toList]
      simpa [Value.cells] using this
     rw [e1]
     exact fill_eq place r _ out h
    ·cases h
   ·have hv:v.cells=#[v]:=by cases v <;> first | rfl | exact absurd ⟨_,rfl⟩ hag
    have h':(if size=1/\off+1<=cs.length then kq place (cs.set off v) r else none)=some out:=by
     cases v <;> first | exact h | exact absurd ⟨_,rfl⟩ hag
    split at h'
    ·rename_i hc
     obtain ⟨rfl,h2⟩:=hc
     rw [if_neg (by simp [hv];omega),hv]
     have e1:(#[v]:Array Value).zipIdx.foldl (fun cs (c,j)=>cs.setIfInBounds (off+j) c) cs.toArray=(cs.set off v).toArray:=by simp
     rw [e1]
     exact fill_eq place r _ out h'
    ·cases h'
def vc (P:Program)(t:TypeId)(qs:List (Nat×Value)):Option (List Value) :=
 match P.info? t,P.underlying t with
 | some it,some (.array _ el) =>
  match it.zero,P.info? el with
  | some zv,some ie=>kq (fun i=>some (i*ie.size,ie.size)) zv.cells.toList qs
  | _,_=>none
 | some it,some (.struct fields) =>
  match it.zero,fields.toList.mapM (fun f=>(P.info? f.type).map fun i=>(f.offset,i.size)) with
  | some zv,some places=>kq (places[·]?) zv.cells.toList qs
  | _,_=>none
 | _,_=>none
theorem N8 {t:TypeId}{qs:List (Nat×Value)}{cs:List Value}(h:vc P t qs=some cs):P.built t qs=some cs.toArray:=by
 unfold vc at h
 unfold Program.built
 split at h
 ·rename_i it n el h1 h2
  simp only [h1,h2]
  split at h
  ·rename_i zv ie h3 h4
   simp only [h3,h4]
   simpa using fill_eq _ qs _ _ h
  ·cases h
 ·rename_i it fs h1 h2
  simp only [h1,h2]
  split at h
  ·rename_i zv pl h3 h4
   simp only [h3,h4]
   have:=fill_eq _ qs _ _ h
   simpa using this
  ·cases h
 ·cases h
theorem N9 (E:Fr a n e ds){t:TypeId}{ps:List (Nat×Operand)}{qs:List (Nat×Value)}{cells:List Value}(ho:o.op = .build t ps.toArray)(hq:qp e ps=some qs)
  (hr:vc P t qs=some cells):ab P o a w (.agg cells.toArray) w:=by
 have h:=run_build w t qs.toArray cells.toArray (by simpa using N8 hr)
 have h2:=E.qp hq
 simp only [ab,execOp,ho,map_toArray,Sem.run_bind]
 rw [show (ps.map fun x=>match x with | (i,x)=>(i,a.eval x))=qs from h2,h]
 rfl
end
section
variable {P:Program}{Q:Exit->Act->World->Prop}{a:Act}{w0 w:World}{o:Oper}{n:Nat}{e:List (Nat×Value)}{ds:List Deferred}{x y:Operand}{v u:Value}{C:Chunk}{As Ls Rs:List Chunk}{K:Act->World->Prop}
theorem CQ (L:List Value):∀(k i:Nat),i<k*L.length->(replicate k L).flatten[i]? = L[i % L.length]?
 | 0,i,h=>by simp at h
 | k+1,i,h=>by
  rw [replicate_succ,flatten_cons]
  by_cases hi:i<L.length
  ·rw [getElem?_append_left hi,Nat.mod_eq_of_lt hi]
  ·rw [getElem?_append_right oZ,CQ L k (i - L.length) (by rw [Nat.add_mul,Nat.one_mul] at h;omega),Nat.mod_eq_sub_mod (by omega:i ≥ L.length)]
theorem yU (z:Value)(k:Nat):((Array.range (k*z.cells.size)).map (z.cells[· % z.cells.size]!))=((replicate k z.cells.toList).flatten).toArray:=by
 have hl:((replicate k z.cells.toList).flatten).length=k*z.cells.size:=by simp [length_flatten]
 apply Array.ext
 ·simp [length_flatten]
 ·intro i h1 h2
  have h3:i<k*z.cells.size:=by simpa using h1
  have h4:=CQ z.cells.toList k i (by simpa using h3)
  have h5:i<((replicate k z.cells.toList).flatten).length:=by rw [hl];exact h3
  rw [getElem?_eq_getElem h5] at h4
  have Kx:0<z.cells.size:=by
   rcases Nat.eq_zero_or_pos z.cells.size with h | h
   ·rw [h] at h3;omega
   ·exact h
  have hm:i % z.cells.size<z.cells.size:=Nat.mod_lt _ Kx
  have h6:i % z.cells.toList.length<z.cells.toList.length:=by simpa using hm
  rw [getElem?_eq_getElem h6] at h4
  have h7:=Option.some.inj h4
  simp only [Array.getElem_map,Array.getElem_range,getElem_toArray,h7]
  simp [hm]
theorem TF (E:Fr a n e ds){d:Nat}(hr:ab P o a w v w)(hd:o.dst=some d)(hn:d<n)(k:∀a',Fr a' n ((d,v) :: e) ds->K a' w):o.wp P a w K Q :=
 hr.wp (by rw [hd];exact k _ (E.put hn v))
theorem yV (E:Fr a n e ds)(S:St w0 As w Ls){t el:TypeId}{d len:Nat}{i:TypeInfo}{zv:Value}{ps:List (Nat×Operand)}{qs:List (Nat×Value)}{cells:List Value}(ho:o.op = .buildSlice t len ps.toArray)(hd:o.dst=some d)(hn:d<n)
  (hq:qp e ps=some qs) (ht:P.underlying t=some (.slice el)) (hi:P.info? el=some i) (hz:i.zero=some zv) (hs:zv.cells.size=i.size) (Cj:(len*i.size<=2 ^ 24/\0<len*i.size))
  (hf:kq (fun j=>some (j*i.size,i.size)) (replicate len zv.cells.toList).flatten qs=some cells)
  (k:∀a' w' b,Fr a' n ((d,.slice (some ⟨b,0,none⟩) len len) :: e) ds->St w0 As w' ([(b,ax cells el)] :: Ls)->K a' w'):o.wp P a w K Q:=by
 refine Go.wp_buildSlice t el len ps.toArray ho cells.toArray i zv ht hi hz oZ oZ ?_ ?_
 ·rw [<-hs,yU]
  have h2:=E.qp hq
  have h3:(ps.toArray.map fun x=>match x with | (i,x)=>(i,a.eval x)).toList=qs:=by rw [map_toArray];exact h2
  rw [h3,hs]
  exact fill_eq _ _ _ _ hf
 ·rw [hd];exact k _ _ w.heap.size (E.put hn _) (S.alloc _)
theorem zU (E:Fr a n e ds){t:TypeId}{b j q:Nat}{vs:List Value}(ho:o.op = .load t x)(hx:ev e x=some (.pointer (some ⟨b,j,none⟩)))(ht:km P t=some q)(hl:vs.length=q)
  (hv:∀i u,vs[i]? = some u->w.cell? ⟨b,j+i,none⟩=some u):ab P o a w (.agg vs.toArray) w:=by
 subst hl
 have h1:(loadCells ⟨b,j,none⟩ vs.length).run P w = .ok vs.toArray w :=
  run_loadCells_list w ⟨b,j,none⟩ vs fun i u hu=>by rw [Addr.add_lit];exact hv i u hu
 simp [ab,execOp,ho,E.eval hx,Instr.loadAt,Instr.sureAddr,loadVar,kG ht,run_sizeOf (u7 ht),h1]
theorem gA {α:Type}{lay:α->List Value}{s:Nat}{asx:List α}(hl:∀a,(lay a).length=s):(asx.flatMap lay).length=asx.length*s:=by
 induction asx with
 | nil=>simp
 | cons a r ih=>rw [flatMap_cons,length_append,ih,hl,length_cons,Nat.succ_mul,Nat.add_comm]
theorem aC.opened {T:TypeId}{s m:Nat}{xs:List Value}(h:aC C T s v m xs)(hm:0<m):∃g c r,v = .slice (some ⟨g,0,none⟩) m c/\C=[(g,ax (xs++r) T)]/\m<=c/\c<=maxLen/\xs.length+r.length=c*s:=by
 rcases h.2.2 with ⟨_,h0,_⟩ | ⟨g,c,r,hv,hC,hn,hc,hl⟩
 ·omega
 ·exact ⟨g,c,r,hv,hC,hn,hc,hl⟩
theorem aC.eH {T:TypeId}{s m c l:Nat}{ad:Option Addr}{xs:List Value}(h:aC C T s (.slice ad l c) m xs):m<=c:=by
 rcases h.2.2 with ⟨hv,h0,_⟩ | ⟨g,c',r,hv,_,hn,_⟩
 ·omega
 ·cases hv;exact hn
theorem ve {T:TypeId}{g c s m:Nat}{xs r:List Value}(hx:xs.length=m*s)(h1:∀u∈xs,u.oneCell'=true)(hn:m<=c)(hc:c<=maxLen)(hl:xs.length+r.length=c*s) :
  aC [(g,ax (xs++r) T)] T s (.slice (some ⟨g,0,none⟩) m c) m xs:=⟨hx,h1,.inr ⟨g,c,r,rfl,rfl,hn,hc,hl⟩⟩
theorem ay {g s m:Nat}{xs:List Value}{T:TypeId}(hx:xs.length=m*s)(h1:∀u∈xs,u.oneCell'=true)(hm:m<=4611686018427387904)(c:Nat):Rd [(g,ax xs T)] s (.slice (some ⟨g,0,none⟩) m c) m xs :=
 ⟨hx,h1,by simp only [maxLen];omega,.inr ⟨g,0,c,_,T,(0,0),rfl,mem_singleton.2 rfl,fun i u hu=>by simpa using hu⟩⟩
end
section
variable {P:Program}{Q:Exit->Act->World->Prop}{a:Act}{w0 w:World}{o:Oper}{n:Nat}{e:List (Nat×Value)}{ds:List Deferred}{x y z u:Operand}{v:Value}{C:Chunk}{As Ls Rs:List Chunk}{K:Act->World->Prop}
theorem CR (E:Fr a n e ds){t el:TypeId}{s l c hi mx:Nat}{ad:Option Addr}{k2 k3:IntKind}{r q:Int}(ho:o.op = .slice t x none (some z) (some u))(hx:ev e x=some (.slice ad l c))(hz:ev e z=some (.int k2 r))(hu:ev e u=some (.int k3 q))
  (ht:P.underlying t=some (.slice el)) (hs:(P.info? el).map (·.size)=some s) (hr:r=(hi:Int)) (hq:q=(mx:Int)) (h1:hi<=mx) (h2:mx<=c):ab P o a w (sliced ad 0 hi mx s) w:=by
 subst hr hq
 have e1:P.elem t=el:=by simp [Program.elem,ht]
 have:=Go.run_slice_hm (P:=P) w t ad l c (by rw [e1];exact ht) k2 k3 (hi:Int) (mx:Int) oZ oZ oZ
 rw [e1,run_sizeOf hs] at this
 simp [ab,execOp,ho,E.eval hx,E.eval hz,E.eval hu,run_sliceAt_slice w t _ _ _ _ (by rw [e1];exact ht),this]
theorem zV (E:Fr a n e ds){t el:TypeId}{s l c lo hi mx:Nat}{ad:Option Addr}{k1 k2 k3:IntKind}{p r q:Int}(ho:o.op = .slice t x (some y) (some z) (some u))(hx:ev e x=some (.slice ad l c))(hy:ev e y=some (.int k1 p))(hz:ev e z=some (.int k2 r))(hu:ev e u=some (.int k3 q))
  (ht:P.underlying t=some (.slice el)) (hs:(P.info? el).map (·.size)=some s) (hp:p=(lo:Int)) (hr:r=(hi:Int)) (hq:q=(mx:Int)) (h0:lo<=hi) (h1:hi<=mx) (h2:mx<=c):ab P o a w (sliced ad lo hi mx s) w:=by
 subst hp hr hq
 have e1:P.elem t=el:=by simp [Program.elem,ht]
 have:=Go.run_slice_lhm (P:=P) w t ad l c (by rw [e1];exact ht) k1 k2 k3 (lo:Int) (hi:Int) (mx:Int) oZ oZ oZ oZ
 rw [e1,run_sizeOf hs] at this
 simp [ab,execOp,ho,E.eval hx,E.eval hy,E.eval hz,E.eval hu,run_sliceAt_slice w t _ _ _ _ (by rw [e1];exact ht),this]
theorem qq {t el:TypeId}(d:Nat)(ad:Option Addr)(l c:Nat)(ht:P.underlying t=some (.slice el)):(Op.equalIn (d+1) t (.slice ad l c) (.slice none 0 0)).run P w = .ok ad.isNone w:=by
 cases ad <;> simp [Op.equalIn,run_underlying ht]
theorem mw {t el:TypeId}(ad:Option Addr)(l c:Nat)(ht:P.underlying t=some (.slice el)):(Op.equal t (.slice ad l c) (.slice none 0 0)).run P w = .ok ad.isNone w:=qq 9999 ad l c ht
theorem r8 (E:Fr a n e ds){t t' el:TypeId}{ad:Option Addr}{l c:Nat}(ho:o.op = .binOp .eql t x y t')(hx:ev e x=some (.slice ad l c))(hy:ev e y=some (.slice none 0 0))(ht:P.underlying t=some (.slice el)):ab P o a w (.bool ad.isNone) w :=
 cu E ho hx hy (by simp [go_sem]) (by show ((do pure (.bool (<- Op.equal t (.slice ad l c) (.slice none 0 0))):Sem Value)).run P w=_;rw [Sem.run_bind,mw ad l c ht];rfl)
theorem sa (E:Fr a n e ds){t t' el:TypeId}{ad:Option Addr}{l c:Nat}(ho:o.op = .binOp .neq t x y t')(hx:ev e x=some (.slice ad l c))(hy:ev e y=some (.slice none 0 0))(ht:P.underlying t=some (.slice el)):ab P o a w (.bool !ad.isNone) w :=
 cu E ho hx hy (by simp [go_sem]) (by show ((do pure (.bool !(<- Op.equal t (.slice ad l c) (.slice none 0 0))):Sem Value)).run P w=_;rw [Sem.run_bind,mw ad l c ht];rfl)
theorem GA (E:Fr a n e ds)(S:St w0 As w Ls){t el:TypeId}{d:Nat}{i:TypeInfo}(ho:o.op = .buildSlice t 0 #[])(hd:o.dst=some d)(hn:d<n)
  (ht:P.underlying t=some (.slice el)) (hi:P.info? el=some i)
  (k:∀a' w' b,Fr a' n ((d,.slice (some ⟨b,0,none⟩) 0 0) :: e) ds->St w0 As w' ([(b,ax [] el)] :: Ls)->K a' w'):o.wp P a w K Q:=by
 have h:(Instr.buildSlice t 0 #[]).run P w = .ok (.slice (some ⟨w.heap.size,0,none⟩) 0 0) (w.alloc (.cells #[] el)):=by
  simp [Instr.buildSlice,run_underlying ht,sizeOf,typeInfo,hi,Instr.fill,newRow]
  congr 2
  exact Array.eq_empty_of_size_eq_zero (by simp)
 have hr:ab P o a w (.slice (some ⟨w.heap.size,0,none⟩) 0 0) (w.alloc (.cells #[] el)):=by simp [ab,execOp,ho,h]
 exact hr.wp (by rw [hd];exact k _ _ w.heap.size (E.put hn _) (S.alloc _))
theorem sf (w:World)(t tx ty el:TypeId)(kk:IntKind)(i:TypeInfo)(zv:Value)(ht:P.underlying t=some (.slice el))(xU:P.underlying tx=some (.int kk))(hi:P.info? el=some i)(hz:i.zero=some zv)(m:Nat)(hm:0<m)
  (bu:0<i.size) (zT:m<=9223372036854775807) (hb:m*i.bytes<=140737488355328) :
  (Builtin.append_ #[t,tx] ty #[.slice none 0 0,.int kk m]).run P w = .ok (.slice (some ⟨w.heap.size,0,none⟩) m (grownCap w m 0 el)) (w.drew.alloc (.cells (Builtin.zeroCells zv.cells m++Builtin.zeroCells zv.cells (grownCap w m 0 el - m)) el)):=by
 have hw:IntKind.i64.wrap (m:Int)=m:=IntWalk.i64_in _ oZ
 have h1:¬(281474976710656<(m:Int)*(i.bytes:Int)):=by
  have h:((m*i.bytes:Nat):Int)<=140737488355328:=oZ
  rw [Int.natCast_mul] at h;omega
 have h2:¬m=0:=oZ
 have h3:¬i.size=0:=oZ
 have h4:¬(9223372036854775807<(m:Int)):=oZ
 have h5:¬(281474976710656<Builtin.nextslicecap m 0*i.bytes):=by have:=growslice_fits (need:=m) (old:=0) (bytes:=i.bytes) hm hb;omega
 have h6:¬((m:Int)<0):=oZ
 have h7:¬m*i.size=0:=Nat.ne_of_gt (Nat.mul_pos hm bu)
 simp [Builtin.append_,h6,h7,run_underlying ht,run_underlying xU,sizeOf,typeInfo,zeroValue,hi,hz,hw,h1,h2,h3,h4,h5,Question.forced,newRow,grownCap,asInt,asIntOf,Builtin.firstCells]
theorem GB (E:Fr a n e ds)(S:St w0 As w Ls){t tx T:TypeId}{d m s ja:Nat}{kk:IntKind}{q:Int}{i:TypeInfo}{zv:Value}(ho:o.op = .call { callee:=.builtin .append,args:=#[x,y],argTypes:=#[t,tx] })(hd:o.dst=some d)(hn:d<n)
  (hx:ev e x=some (.slice none 0 0)) (hy:ev e y=some (.int kk q)) (hq:q=(m:Int)) (ht:P.underlying t=some (.slice T)) (xU:P.underlying tx=some (.int kk)) (hi:P.info? T=some i) (hz:i.zero=some zv) (bu:i.size=s) (S0:zv.cells.size=s) (YN:i.bytes=ja)
  (vg:0<s) (hm:0<m) (zT:m<=9223372036854775807) (hb:m*ja<=140737488355328)
  (k:∀a' w' g c l,Fr a' n ((d,.slice (some ⟨g,0,none⟩) m c) :: e) ds->St w0 As w' ([(g,ax l T)] :: Ls)->m<=c->c<=maxLen->l.length=c*s->K a' w'):o.wp P a w K Q:=by
 subst hq bu YN
 have hr:=sf (P:=P) w t tx o.type T kk i zv ht xU hi hz m hm vg zT hb
 have dQ:ab P o a w (.slice (some ⟨w.heap.size,0,none⟩) m (grownCap w m 0 T)) (w.drew.alloc (.cells (Builtin.zeroCells zv.cells m++Builtin.zeroCells zv.cells (grownCap w m 0 T - m)) T)):=by
  simp [ab,execOp,ho,resolve,invoke,builtin,E.eval hx,E.eval hy,hr]
 have yS:=grownCap_ge w m 0 T
 have h1:=S.drew.alloc (.cells (Builtin.zeroCells zv.cells m++Builtin.zeroCells zv.cells (grownCap w m 0 T - m)) T)
 have h2:(Builtin.zeroCells zv.cells m++Builtin.zeroCells zv.cells (grownCap w m 0 T - m)).toList.length=grownCap w m 0 T*i.size:=by
  simp only [Array.length_toList,Array.size_append,size_zeroCells,S0,<-Nat.add_mul]
  congr 1
  omega
 exact dQ.wp (by rw [hd];exact k _ _ w.heap.size (grownCap w m 0 T) (Builtin.zeroCells zv.cells m++Builtin.zeroCells zv.cells (grownCap w m 0 T - m)).toList (E.put hn _) (by rw [ax,Array.toArray_toList];exact h1) yS (grownCap_le_maxLen w m 0 T (by simp only [maxLen];omega)) h2)
theorem vh {T:TypeId}{g c s:Nat}{l:List Value}(hc:c<=maxLen)(hl:l.length=c*s):aC [(g,ax l T)] T s (.slice (some ⟨g,0,none⟩) 0 c) 0 [] :=
 ⟨by simp,by simp,.inr ⟨g,c,l,rfl,rfl,Nat.zero_le _,hc,by simpa using hl⟩⟩
end
section
variable {w0 w w':World}{As Ls Rs Bs:List Chunk}{A B C D:Chunk}
theorem CT {α:Type}{lay:α->List Value}{s:Nat}(hl:∀a,(lay a).length=s)(y:α):∀(xs:List α) (i:Nat),i<xs.length->(xs.set i y).flatMap lay=(xs.flatMap lay).take (i*s)++lay y++(xs.flatMap lay).drop (i*s+s)
 | a :: r,0,_=>by
  rw [set_cons_zero,flatMap_cons,flatMap_cons,Nat.zero_mul,take_zero,nil_append,Nat.zero_add,<-hl a,drop_left]
 | a :: r,i+1,h=>by
  have ih:=CT hl y r i (by simpa using h)
  have ha:=hl a
  rw [set_cons_succ,flatMap_cons,flatMap_cons,ih,Nat.succ_mul,Nat.add_comm (i*s) s,<-ha,take_length_add_append,Nat.add_assoc,drop_length_add_append]
  simp [Nat.add_comm]
section
variable {P:Program}{ops:Array Oper}{a:Act}{rest:List Oper}{o:Oper}{n d:Nat}{e:List (Nat×Value)}{ds:List Deferred}{x g:Operand}{v:Value}{K:Act->World->Prop}{Q:Exit->Act->World->Prop}
end
end
def dI (P:Program)(t:TypeId):Bool :=
 match P.underlying t with
 | some (.struct _) | some (.array _ _)=>true
 | _=>false
def eI (P:Program)(t:TypeId)(us:List Value):Option Value :=
 bif dI P t then some (.agg us.toArray) else match us with
  | [u]=>some u
  | _=>none
def si (P:Program)(F:TypeId->List Value->List Value->Option Bool):List Field->List Value->List Value->Option Bool
 | [],_,_=>some true
 | f :: r,us,vs=>bif f.name == "_" then none else match P.info? f.type with
  | none=>none
  | some i=>bif Nat.blt us.length (f.offset+i.size)||Nat.blt vs.length (f.offset+i.size) then none else
   match F f.type ((us.drop f.offset).take i.size) ((vs.drop f.offset).take i.size) with
   | none=>none
   | some p=>match r with
    | []=>some p
    | r=>match si P F r us vs with
     | none=>none
     | some q=>some (p&&q)
def cj (P:Program):Nat->TypeId->List Value->List Value->Option Bool
 | 0,_,_,_=>none
 | d+1,t,us,vs=>match P.underlying t with
  | some (.int _)=>match us,vs with
   | [.int k a],[.int k' b]=>if k=k' then some (a==b) else none
   | _,_=>none
  | some .bool=>match us,vs with
   | [.bool a],[.bool b]=>some (a==b)
   | _,_=>none
  | some (.struct fs)=>si P (cj P d) fs.toList us vs
  | _=>none
def lT (P:Program):Nat->TypeId->Bool
 | 0,_=>false
 | d+1,t=>match P.underlying t with
  | some (.struct fs) => !P.stoodInHeld t&&fs.toList.all fun f=>lT P d f.type
  | _=>true
section
variable {P:Program}
theorem Oa {t:TypeId}(w:World)(h:P.underlying t≠none):(isAgg t).run P w = .ok (dI P t) w:=by
 unfold dI
 cases hd:P.underlying t with
 | none=>exact absurd hd h
 | some d=>cases d <;> simp [isAgg,run_underlying hd]
theorem vm {t:TypeId}{i:TypeInfo}(w:World)(hi:P.info? t=some i)(hu:P.underlying t≠none){us:List Value}{off:Nat}{v:Value}(hl:off+i.size<=us.length)
  (hv:eI P t ((us.drop off).take i.size)=some v):(part t us.toArray off).run P w = .ok v w:=by
 unfold part
 rw [Sem.run_bind,Oa w hu,Result.andThen_ok]
 unfold eI at hv
 cases hb:dI P t with
 | true =>
  simp only [hb,cond_true,Option.some.injEq] at hv
  subst hv
  simp only [if_true,Sem.run_bind,run_sizeOf (P:=P) (w:=w) (t:=t) (q:=i.size) (by rw [hi];rfl),Result.andThen_ok,Sem.run_pure]
  congr 2
  apply Array.ext'
  simp [extract_toArray,extract_eq_take_drop]
 | false =>
  simp only [hb,cond_false] at hv
  split at hv
  ·rename_i u hu2
   cases hv
   have h0:us[off]? = some v:=by
    have h1:((us.drop off).take i.size)[0]? = some v:=by rw [hu2];rfl
    rw [getElem?_take] at h1
    split at h1
    ·rw [getElem?_drop] at h1;exact h1
    ·cases h1
   simp [h0]
  ·cases hv
theorem pg {d:Nat}{t:TypeId}{us vs:List Value}{r:Bool}(h:cj P d t us vs=some r):P.underlying t≠none/\(∃u,eI P t us=some u)/\∃v,eI P t vs=some v:=by
 cases d with
 | zero=>cases h
 | succ d =>
  unfold cj at h
  split at h
  ·rename_i hu
   refine ⟨by rw [hu];simp, ?_⟩
   have hb:dI P t=false:=by simp [dI,hu]
   split at h
   ·simp [eI,hb]
   ·cases h
  ·rename_i hu
   refine ⟨by rw [hu];simp, ?_⟩
   have hb:dI P t=false:=by simp [dI,hu]
   split at h
   ·simp [eI,hb]
   ·cases h
  ·rename_i fs hu
   have hb:dI P t=true:=by simp [dI,hu]
   exact ⟨by rw [hu];simp,by simp [eI,hb]⟩
  ·cases h
theorem CU {D d:Nat}{F:TypeId->List Value->List Value->Option Bool}(hF:F=cj P d)(w:World)
  (ih:∀t us vs r u v,cj P d t us vs=some r->lT P d t=true->eI P t us=some u->eI P t vs=some v->(Op.equalIn D t u v).run P w = .ok r w) :
  ∀(fs:List Field) (us vs:List Value) (r:Bool),si P F fs us vs=some r->(∀f∈fs,lT P d f.type=true)->(Op.eqFields D us.toArray vs.toArray fs).run P w = .ok r w
 | [],us,vs,r,h,_=>by
  simp only [si,Option.some.injEq] at h
  subst h
  simp [Op.eqFields]
 | f :: fs,us,vs,r,h,hh=>by
  subst hF
  unfold si at h
  cases hn:(f.name == "_") with
  | true=>simp [hn] at h
  | false =>
   simp only [hn,cond_false] at h
   have ey:f.name ≠ "_":=by simpa using hn
   cases hi:P.info? f.type with
   | none=>simp [hi] at h
   | some i =>
    simp only [hi] at h
    cases hl:(Nat.blt us.length (f.offset+i.size)||Nat.blt vs.length (f.offset+i.size)) with
    | true=>simp [hl] at h
    | false =>
     simp only [hl,cond_false] at h
     have uk:f.offset+i.size<=us.length/\f.offset+i.size<=vs.length:=by
      simp only [Bool.or_eq_false_iff] at hl
      have h1:=hl.1
      have h2:=hl.2
      rw [<-Bool.not_eq_true,Nat.blt_eq] at h1 h2
      omega
     cases hp:cj P d f.type ((us.drop f.offset).take i.size) ((vs.drop f.offset).take i.size) with
     | none=>simp [hp] at h
     | some p =>
      simp only [hp] at h
      obtain ⟨hu,⟨u,IM⟩,v,YR⟩:=pg hp
      have e1:=vm w hi hu uk.1 IM
      have e2:=vm w hi hu uk.2 YR
      have e3:=ih _ _ _ _ _ _ hp (hh f (mem_cons_self ..)) IM YR
      have dQ:(Op.eqFields D us.toArray vs.toArray (f :: fs)).run P w=(if (!p)=true then (pure false:Sem Bool) else Op.eqFields D us.toArray vs.toArray fs).run P w:=by
       simp only [Op.eqFields,if_pos ey,Sem.run_bind,e1,Result.andThen_ok,e2,e3]
      rw [dQ]
      have ph:∀q,si P (cj P d) fs us vs=some q->(Op.eqFields D us.toArray vs.toArray fs).run P w = .ok q w:=fun q hq =>
       CU rfl w ih fs us vs q hq fun g hg=>hh g (mem_cons_of_mem _ hg)
      cases fs with
      | nil =>
       simp only [Option.some.injEq] at h
       subst h
       cases p
       ·simp
       ·simp only [Bool.not_true,Bool.false_eq_true,if_false];exact ph true rfl
      | cons g gs =>
       simp only at h
       cases hq:si P (cj P d) (g :: gs) us vs with
       | none=>simp [hq] at h
       | some q =>
        simp only [hq,Option.some.injEq] at h
        subst h
        cases p
        ·simp
        ·simp only [Bool.not_true,Bool.false_eq_true,if_false,Bool.true_and];exact ph q hq
theorem kr (w:World):∀(d j:Nat) (t:TypeId) (us vs:List Value) (r:Bool) (u v:Value),cj P d t us vs=some r->lT P d t=true->eI P t us=some u->eI P t vs=some v ->
  (Op.equalIn (d+j) t u v).run P w = .ok r w
 | 0,_,_,_,_,_,_,_,h,_,_,_=>by cases h
 | d+1,j,t,us,vs,r,u,v,h,hh,hu,hv=>by
  unfold cj at h
  rw [show d+1+j=(d+j)+1 by omega]
  split at h
  ·rename_i k0 hk
   have hb:dI P t=false:=by simp [dI,hk]
   split at h
   ·rename_i k a k' b
    simp only [eI,hb,cond_false,Option.some.injEq] at hu hv
    subst hu hv
    split at h
    ·rename_i tj
     subst tj
     cases h
     exact run_equalIn_int w (d+j) t _ _ _ _ hk
    ·cases h
   ·cases h
  ·rename_i hk
   have hb:dI P t=false:=by simp [dI,hk]
   split at h
   ·rename_i a b
    simp only [eI,hb,cond_false,Option.some.injEq] at hu hv
    subst hu hv
    cases h
    exact run_equalIn_bool' w (d+j) t _ _ hk
   ·cases h
  ·rename_i fs hk
   have hb:dI P t=true:=by simp [dI,hk]
   simp only [eI,hb,cond_true,Option.some.injEq] at hu hv
   subst hu hv
   unfold lT at hh
   rw [hk] at hh
   simp only [Bool.and_eq_true,Bool.not_eq_true',all_eq_true] at hh
   have hS:P.underlying t=some (.struct (P.fieldsOf t)):=by simp [Program.fieldsOf,hk]
   have hfs:P.fieldsOf t=fs:=by simp [Program.fieldsOf,hk]
   rw [run_equalIn_agg w (d+j) t _ _ hS hh.1,hfs]
   exact CU rfl w (fun t us vs r u v h1 h2 h3 h4=>kr w d j t us vs r u v h1 h2 h3 h4) fs.toList us vs r h hh.2
  ·cases h
end
section
variable {P:Program}{a:Act}{w:World}{o:Oper}{n:Nat}{e:List (Nat×Value)}{ds:List Deferred}{x y:Operand}
theorem zW (E:Fr a n e ds){t t':TypeId}{us vs:List Value}{r:Bool}(ho:o.op = .binOp .eql t x y t')(hx:ev e x=some (.agg us.toArray))(hy:ev e y=some (.agg vs.toArray))
  (hr:cj P 8 t us vs=some r) (hh:lT P 8 t=true) (hm:P.eqGuardType P.depth t=false) (ha:dI P t=true):ab P o a w (.bool r) w:=by
 have h1:=run_eqGuard_agg (P:=P) w .eql t x y us.toArray vs.toArray hm
 have h3:=kr w 8 9992 t us vs r _ _ hr hh (by simp only [eI,ha,cond_true];rfl) (by simp only [eI,ha,cond_true];rfl)
 have h2:(binOp .eql t (.agg us.toArray) (.agg vs.toArray)).run P w = .ok (.bool r) w:=by
  rw [run_eql_struct,h3];rfl
 simp [ab,execOp,ho,E.eval hx,E.eval hy,h1,h2]
theorem zX (E:Fr a n e ds){t t':TypeId}{us vs:List Value}{r:Bool}(ho:o.op = .binOp .neq t x y t')(hx:ev e x=some (.agg us.toArray))(hy:ev e y=some (.agg vs.toArray))
  (hr:cj P 8 t us vs=some r) (hh:lT P 8 t=true) (hm:P.eqGuardType P.depth t=false) (ha:dI P t=true):ab P o a w (.bool !r) w:=by
 have h1:=run_eqGuard_agg (P:=P) w .neq t x y us.toArray vs.toArray hm
 have h3:=kr w 8 9992 t us vs r _ _ hr hh (by simp only [eI,ha,cond_true];rfl) (by simp only [eI,ha,cond_true];rfl)
 have h2:(binOp .neq t (.agg us.toArray) (.agg vs.toArray)).run P w = .ok (.bool !r) w:=by
  rw [run_neq_struct,h3];rfl
 simp [ab,execOp,ho,E.eval hx,E.eval hy,h1,h2]
end
section
variable {P:Program}{fn:Func}{a:Act}{w:World}{n:Nat}{e:List (Nat×Value)}{ds:List Deferred}{R:Ending->World->Prop}{t s b:Nat}{ty T:TypeId}{fr:Nat×Nat}{vs:List Value}{x:Value}
end
theorem zY {P:Program}{a:Act}{w:World}{o:Oper}{n:Nat}{e:List (Nat×Value)}{ds:List Deferred}{x y:Operand}(E:Fr a n e ds){t el:TypeId}{l i:Nat}{k:IntKind}{q:Int}{cs:Array Value}{v:Value}
  (ho:o.op = .index t x y) (hx:ev e x=some (.agg cs)) (hy:ev e y=some (.int k q)) (ht:P.underlying t=some (.array l el)) (h1:scalar P el=true) (hs:(P.info? el).map (·.size)=some 1)
  (hq:q=(i:Int)) (hi:i<l) (hv:cs[i]? = some v):ab P o a w v w:=by
 subst hq
 simp [ab,execOp,ho,E.eval hx,E.eval hy,Instr.index,asIntOf,run_underlying ht,hi,run_sizeOf hs,part,dX h1,hv]
theorem aC.addr {C:Chunk}{T:TypeId}{s m c:Nat}{ad:Option Addr}{xs:List Value}(h:aC C T s (.slice ad m c) m xs)(hm:0<m):∃g,ad=some ⟨g,0,none⟩:=by
 rcases h.2.2 with ⟨h,h0,_⟩ | ⟨g,c',r,h,_⟩
 ·omega
 ·cases h;exact ⟨g,rfl⟩
abbrev TG (l:List Value)(T:TypeId):Obj:=.cells l.toArray T (l.length,l.length+1)
section
variable {P:Program}{a:Act}{o:Oper}{n:Nat}{e:List (Nat×Value)}{ds:List Deferred}{x y:Operand}{v u:Value}{K:Act->World->Prop}{Q:Exit->Act->World->Prop}{w0 w:World}{As Ls Rs:List Chunk}
theorem TH (E:Fr a n e ds)(S:St w0 As w Ls){t t' el T:TypeId}{d g m c:Nat}{l:List Value}(ho:o.op = .convert t t' x)(htt:t=t')(hd:o.dst=some d)(hn:d<n)
  (hx:ev e x=some (.slice (some ⟨g,0,none⟩) m c)) (ht:P.underlying t=some (.slice el)) (Kw:P.underlying el=some (.int .u8)) (hp:Ls.Perm ([(g,ax l T)] :: Rs))
  (k:∀a' w',Fr a' n ((d,.slice (some ⟨g,0,none⟩) m c) :: e) ds->St w0 As w' ([(g,TG l T)] :: Rs)->K a' w'):o.wp P a w K Q:=by
 subst htt
 have hg:w.heap[g]? = some (ax l T):=S.get hp
 have YS:w.shape? g=some (T,l.length):=by unfold World.shape?;rw [hg];simp
 have dQ:ab P o a w (.slice (some ⟨g,0,none⟩) m c) (w.freeze ⟨g,l.length,none⟩ 1):=by
  simp [ab,execOp,ho,E.eval hx,convert,run_underlying ht,run_underlying Kw,markStringish,YS]
 refine dQ.wp ?_
 rw [hd]
 have hh:(w.freeze ⟨g,l.length,none⟩ 1).heap=w.heap.modify g (fun
   | .cells c elem (lo,hi)=>.cells c elem (if lo==hi then (l.length,l.length+1) else (min lo l.length,max hi (l.length+1)))
   | o=>o):=by
  unfold World.freeze;rw [if_neg dZ];rfl
 refine k _ _ (E.put hn _) (S.block hp ?_ ?_ ?_ ?_ ?_ ?_)
 ·unfold World.freeze;rw [if_neg dZ]
 ·unfold World.freeze;rw [if_neg dZ]
 ·unfold World.freeze;rw [if_neg dZ]
 ·rw [hh];simp
 ·intro h
  rw [hh,Array.getElem?_modify,if_pos rfl,h]
  rfl
 ·intro k hk
  rw [hh,Array.getElem?_modify,if_neg (fun q=>hk q.symm)]
theorem GC (E:Fr a n e ds)(S:St w0 As w Ls){C:Chunk}{t tx T:TypeId}{d m q s ja b off:Nat}{i:TypeInfo}{zv:Value}{xs ys:List Value}(ho:o.op = .call { callee:=.builtin .append,args:=#[x,y],argTypes:=#[t,tx] })(hd:o.dst=some d)(hn:d<n)
  (hx:ev e x=some (.slice (some ⟨b,off,none⟩) q q)) (hy:ev e y=some u) (hB:Rd C s (.slice (some ⟨b,off,none⟩) q q) q xs) (hC:C∈Ls) (hs:Src P s tx u m ys w)
  (ht:P.underlying t=some (.slice T)) (hi:P.info? T=some i) (hz:i.zero=some zv) (bu:i.size=s) (S0:zv.cells.size=s) (YN:i.bytes=ja)
  (zT:q+m<=maxLen) (yj:(q+m)*ja<=140737488355328) (hm:0<m)
  (k:∀a' w' v' C',Fr a' n ((d,v') :: e) ds->St w0 As w' (C' :: Ls)->aC C' T s v' (q+m) (xs++ys)->K a' w'):o.wp P a w K Q:=by
 subst bu YN
 have hCC:=S.kE.at hC
 have YT:=hB.cells hCC (b:=b) (off:=off) (c:=q) rfl
 have u9:((q+m:Nat):Int)<=9223372036854775807:=by simp only [maxLen] at zT;omega
 have hold:(Builtin.firstCells i.size q (.slice (some ⟨b,off,none⟩) q q)).run P w.drew = .ok xs.toArray w.drew :=
  run_firstCells_some w.drew i.size q ⟨b,off,none⟩ q q xs hB.1 fun j z hz=>by
   rw [Addr.add_lit,World.cell?_drew];exact YT j z hz
 have hr:=run_append_grow_src (P:=P) w t tx o.type T i zv ht hi hz (some ⟨b,off,none⟩) q q xs hold u m ys hs oZ u9 (growslice_fits oZ yj)
 have hlen:(xs++ys).length=(q+m)*i.size:=by rw [length_append,hB.1,hs.newsLen,Nat.add_mul]
 have fJ:∀z∈xs++ys,z.oneCell'=true:=fun z hz=>by
  rcases List.mem_append.1 hz with h | h
  ·exact hB.2.1 z h
  ·exact hs.one z h
 have yS:=grownCap_ge w (q+m) q T
 have ng:grownCap w (q+m) q T<=maxLen:=grownCap_le_maxLen w (q+m) q T zT
 have dQ:ab P o a w (.slice (some ⟨w.heap.size,0,none⟩) (q+m) (grownCap w (q+m) q T)) (w.drew.alloc (.cells ((xs++ys).toArray++Builtin.zeroCells zv.cells (grownCap w (q+m) q T - (q+m))) T)):=by
  simp [ab,execOp,ho,resolve,invoke,builtin,E.eval hx,E.eval hy,hr]
 refine dQ.wp ?_
 rw [hd]
 refine k _ _ _ _ (E.put hn _) (S.drew.alloc _) ⟨hlen,fJ,.inr ⟨w.heap.size,_,(Builtin.zeroCells zv.cells (grownCap w (q+m) q T - (q+m))).toList,rfl, ?_,yS,ng, ?_⟩⟩
 ·simp [ax]
 ·rw [hlen]
  simp only [Array.length_toList,size_zeroCells,S0,<-Nat.add_mul]
  congr 1
  omega
end
theorem IN {g:Nat}{T:TypeId}(b:List UInt8)(hb:b.length<=4611686018427387904):Rd [(g,TG (au b) T)] 1 (.slice (some ⟨g,0,none⟩) b.length b.length) b.length (au b) :=
 ⟨by simp [aq],aP b,by simp only [maxLen];omega,.inr ⟨g,0,b.length,_,T,_,rfl,mem_singleton.2 rfl,fun i u hu=>by simpa using hu⟩⟩
section
variable {P:Program}{a:Act}{o:Oper}{n:Nat}{e:List (Nat×Value)}{ds:List Deferred}{x y:Operand}{v u:Value}{K:Act->World->Prop}{Q:Exit->Act->World->Prop}{w0 w:World}{As Ls Rs:List Chunk}{A:Chunk}
theorem St.tail (S:St w0 As w (A :: Ls)):St w0 As w Ls:=S.only (Bs:=Ls) (Rs:=[A]) (by
 unfold SZ
 exact (perm_append_comm (l₁:=[A]) (l₂:=Ls)))
theorem YU (E:Fr a n e ds){t:TypeId}{p r:Int}(ho:o.op = .unOp .xor t x)(hx:ev e x=some (.int .u32 p))(hr:bits .xor .u32 4294967295 p=r):ab P o a w (.int .u32 r) w:=by
 subst hr
 have h:(Op.unary .xor (.int .u32 p)).run P w = .ok (.int .u32 (bits .xor .u32 4294967295 p)) w:=by rfl
 simp [ab,execOp,ho,E.eval hx,h]
theorem YV (E:Fr a n e ds){t el:TypeId}{l c m:Nat}{ad:Option Addr}(ho:o.op = .sliceToArrayPointer t x)(hx:ev e x=some (.slice ad l c))(ht:P.underlying t=some (.array m el))(hm:m<=l):ab P o a w (.pointer ad) w:=by
 simp [ab,execOp,ho,E.eval hx,Instr.arrayAt,run_underlying ht,Nat.not_lt.2 hm]
theorem vp {b j:Nat}{l:List Value}{T:TypeId}{fr:Nat×Nat}(hb:w.heap[b]? = some (.cells l.toArray T fr))(hj:l[j]? = some v):w.cell? ⟨b,j,none⟩=some v:=by
 rw [jq hb];simpa using hj
end
theorem Oc (l:List Int):∀u∈l.map (Value.int .u32),u.oneCell'=true:=fun u hu=>by
 obtain ⟨z, -,rfl⟩:=mem_map.1 hu;rfl
section
variable {P:Program}{a:Act}{o:Oper}{n:Nat}{e:List (Nat×Value)}{ds:List Deferred}{x y z:Operand}{w w0:World}{u v:Value}{As Ls Rs:List Chunk}{K:Act->World->Prop}{Q:Exit->Act->World->Prop}
theorem zZ (E:Fr a n e ds){t el:TypeId}{b j m:Nat}(ho:o.op = .slice t x none none none)(hx:ev e x=some (.pointer (some ⟨b,j,none⟩)))(ht:P.underlying t=some (.array m el))(hs:(P.info? el).map (·.size)=some 1)(hm:0<m) :
  ab P o a w (.slice (some ⟨b,j,none⟩) m m) w:=by
 have h0:¬m=0:=oZ
 simp [ab,execOp,ho,E.eval hx,Instr.sliceAt,Instr.sureAddr,run_underlying ht,Instr.sliceBounds,run_sizeOf hs,h0,Addr.add_lit]
theorem qu {g m:Nat}{T:TypeId}(pre xs post:List Value)(hx:xs.length=m)(h1:∀u∈xs,u.oneCell'=true)(hm:m<=4611686018427387904)(c:Nat):Rd [(g,ax (pre++xs++post) T)] 1 (.slice (some ⟨g,pre.length,none⟩) m c) m xs :=
 ⟨by omega,h1,by simp only [maxLen];omega,.inr ⟨g,pre.length,c,(pre++xs++post).toArray,T,_,rfl,List.Mem.head _,fun i u hu=>by
  have hi:=(List.getElem?_eq_some_iff.1 hu).1
  simp only [getElem?_toArray]
  rw [append_assoc,getElem?_append_right oZ,Nat.add_sub_cancel_left,getElem?_append_left hi];exact hu⟩⟩
theorem z6 (E:Fr a n e ds)(S:St w0 As w Ls){t tx T:TypeId}{d m q c g s:Nat}{i:TypeInfo}{l ys:List Value}(ho:o.op = .call { callee:=.builtin .append,args:=#[x,y],argTypes:=#[t,tx] })(hd:o.dst=some d)(hn:d<n)
  (hx:ev e x=some (.slice (some ⟨g,0,none⟩) q c)) (hy:ev e y=some u) (hp:Ls.Perm ([(g,ax l T)] :: Rs)) (fe:q+m<=c) (hlen:(q+m)*s<=l.length) (hs:Src P s tx u m ys w)
  (ht:P.underlying t=some (.slice T)) (hi:P.info? T=some i) (bu:i.size=s)
  (k:∀a' w',Fr a' n ((d,.slice (some ⟨g,0,none⟩) (q+m) c) :: e) ds->St w0 As w' ([(g,ax (l.take (q*s)++ys++l.drop ((q+m)*s)) T)] :: Rs)->K a' w'):o.wp P a w K Q:=by
 subst bu
 have Xe:ys.length=m*i.size:=hs.newsLen
 have bB:=run_storeCells_at P g (q*i.size) T ys 0 l.toArray w (S.get hp) (by rw [Xe,Nat.add_zero,<-Nat.add_mul];simpa using hlen) hs.one
 simp only [Nat.add_zero,Xe,<-Nat.add_mul] at bB
 have dQ:ab P o a w (.slice (some ⟨g,0,none⟩) (q+m) c) (w.setRow g (l.take (q*i.size)++ys++l.drop ((q+m)*i.size)).toArray):=by
  rcases hs.kind with ⟨e',hk⟩ | hk <;> simp [ab,execOp,ho,resolve,invoke,builtin,E.eval hx,E.eval hy,Builtin.append_,run_underlying ht,run_underlying hk,sizeOf,typeInfo,hi,hs.len,fe,hs.cells,Addr.add_lit,bB]
 refine dQ.wp ?_
 rw [hd]
 exact k _ _ (E.put hn _) (S.row hp)
end
section
variable {P:Program}{a:Act}{o:Oper}{n:Nat}{e:List (Nat×Value)}{ds:List Deferred}{x y:Operand}{w:World}
def Bk (w:World)(b:Nat):Prop:=∃l T,w.heap[b]? = some (ax l T)
theorem vt {t te:TypeId}{i j:Nat}{z:TypeInfo}(hp:P.underlying t=some (.pointer te))(hte:P.info? te=some z)(bu:z.size≠0)(h:i=j\/(Bk w i/\Bk w j)) :
  (Op.equal t (ptr i) (ptr j)).run P w = .ok (decide (i=j)) w:=by
 by_cases F9:i=j
 ·subst F9
  simp only [decide_true]
  have key:∀d:Nat,(Op.equalIn (d+1) t (.pointer (some ⟨i,0,none⟩)) (.pointer (some ⟨i,0,none⟩))).run P w = .ok true w:=fun d=>by
   simp [Op.equalIn,run_underlying hp,sizeOf,typeInfo,hte,run_sameAddr_same]
  exact key 9999
 ·obtain ⟨⟨l1,T1,h1⟩,⟨l2,T2,h2⟩⟩:=h.resolve_left F9
  have ey:(⟨i,0,none⟩:Addr)≠⟨j,0,none⟩:=fun q=>F9 (by cases q;rfl)
  have key:∀d:Nat,(Op.equalIn (d+1) t (.pointer (some ⟨i,0,none⟩)) (.pointer (some ⟨j,0,none⟩))).run P w = .ok false w:=fun d=>by
   simp [Op.equalIn,run_underlying hp,sizeOf,typeInfo,hte,bu,run_sameAddr_other w ey (show w.heap[(⟨i,0,none⟩:Addr).block]? = some (.cells l1.toArray T1 (0,0)) from h1) (show w.heap[(⟨j,0,none⟩:Addr).block]? = some (.cells l2.toArray T2 (0,0)) from h2)]
  rw [decide_eq_false F9]
  exact key 9999
theorem CV (E:Fr a n e ds){t t' te:TypeId}{i j:Nat}{z:TypeInfo}(ho:o.op = .binOp .eql t x y t')(hx:ev e x=some (ptr i))(hy:ev e y=some (ptr j))(hp:P.underlying t=some (.pointer te))(hte:P.info? te=some z)(bu:z.size≠0)(h:i=j\/(Bk w i/\Bk w j)) :
  ab P o a w (.bool (decide (i=j))) w :=
 cu E ho hx hy (by simp [go_sem]) (by show ((do pure (.bool (<- Op.equal t (ptr i) (ptr j))):Sem Value)).run P w=_;rw [Sem.run_bind,vt hp hte bu h];rfl)
theorem CX (E:Fr a n e ds){t t' te:TypeId}{i j:Nat}{z:TypeInfo}(ho:o.op = .binOp .neq t x y t')(hx:ev e x=some (ptr i))(hy:ev e y=some (ptr j))(hp:P.underlying t=some (.pointer te))(hte:P.info? te=some z)(bu:z.size≠0)(h:i=j\/(Bk w i/\Bk w j)) :
  ab P o a w (.bool !(decide (i=j))) w :=
 cu E ho hx hy (by simp [go_sem]) (by show ((do pure (.bool !(<- Op.equal t (ptr i) (ptr j))):Sem Value)).run P w=_;rw [Sem.run_bind,vt hp hte bu h];rfl)
end
theorem Od {sz:Nat}{z vs:List Value}(hz:z.length=sz)(hv:vs.length=sz):kq (fun j=>some (j*sz,sz)) (replicate 1 z).flatten [(0,.agg vs.toArray)]=some vs:=by
 subst hz
 have h1:(replicate 1 z).flatten=z:=by simp [replicate]
 simp [kq,h1,hv]
section
variable {w0 w:World}{As Ls L1 L2 L3 L4 L5 L6:List Chunk}{A B C D F G:Chunk}
end
section
variable {P:Program}{a:Act}{o:Oper}{n:Nat}{e:List (Nat×Value)}{ds:List Deferred}{x y:Operand}{w:World}
end
section
variable {P:Program}{a:Act}{o:Oper}{n:Nat}{e:List (Nat×Value)}{ds:List Deferred}{x y:Operand}{w w0:World}{As Ls Rs:List Chunk}{K:Act->World->Prop}{Q:Exit->Act->World->Prop}
end
section
variable {w0 w w':World}{As Ls Rs Bs Ms:List Chunk}{A B C D:Chunk}
end
def ni:List UInt8->List UInt8->List UInt8
 | x :: xs,m :: ms=>(x ^^^ m) :: ni xs ms
 | [],_=>[]
 | x :: xs,[]=>x :: xs
theorem iL:∀(xs ms:List UInt8),(ni xs ms).length=xs.length
 | x :: xs,m :: ms=>by simp [ni,iL xs ms]
 | [],ms=>by cases ms <;> rfl
 | x :: xs,[]=>rfl
theorem Oe (xs:List UInt8):ni xs []=xs:=by cases xs <;> rfl
theorem qv:∀(xs ms:List UInt8) (i:Nat) (x m:UInt8),xs[i]? = some x->ms[i]? = some m->(ni xs ms)[i]? = some (x ^^^ m)
 | [],ms,i,x,m,h,_=>by simp at h
 | a :: xs,[],i,x,m,_,h=>by simp at h
 | a :: xs,b :: ms,0,x,m,h1,h2=>by simp at h1 h2;subst h1 h2;rfl
 | a :: xs,b :: ms,i+1,x,m,h1,h2=>by simp at h1 h2;simp [ni];exact qv xs ms i x m h1 h2
theorem nU:∀(xs ms:List UInt8) (i:Nat),ms.length<=i->(ni xs ms)[i]? = xs[i]?
 | [],ms,i,h=>by cases ms <;> rfl
 | a :: xs,[],i,_=>rfl
 | a :: xs,b :: ms,0,h=>by simp at h
 | a :: xs,b :: ms,i+1,h=>by simp [ni];exact nU xs ms i (by simpa using h)
theorem Ky {xs ms:List UInt8}{i:Nat}{x m:UInt8}(hx:xs[i]? = some x)(hm:ms[i]? = some m):(ni xs (ms.take i)).set i (x ^^^ m)=ni xs (ms.take (i+1)):=by
 have hi:i<ms.length:=(List.getElem?_eq_some_iff.1 hm).1
 have hix:i<xs.length:=(List.getElem?_eq_some_iff.1 hx).1
 apply ext_getElem?
 intro j
 rw [getElem?_set]
 by_cases hj:i=j
 ·subst hj
  rw [if_pos rfl,if_pos (by rw [iL];exact hix)]
  exact (qv xs _ i x m hx (by rw [getElem?_take_of_lt oZ];exact hm)).symm
 ·rw [if_neg hj]
  rcases Nat.lt_or_ge j i with c | c
  ·rcases Nat.lt_or_ge j xs.length with d | d
   ·rw [qv xs (ms.take i) j xs[j] ms[j] (by simp) (by simp [c]),qv xs (ms.take (i+1)) j xs[j] ms[j] (by simp) (by rw [getElem?_take_of_lt oZ];simp)]
   ·rw [getElem?_eq_none (by rw [iL];exact d),getElem?_eq_none (by rw [iL];exact d)]
  ·rw [nU _ _ _ (by rw [length_take];omega),nU _ _ _ (by rw [length_take];omega)]
theorem aei (x m:UInt8):bits .xor .u8 (x.toNat:Int) (m.toNat:Int)=((x ^^^ m).toNat:Int):=by
 have h2:∀z:UInt8,(BitVec.ofInt 8 (z.toNat:Int)).toNat=z.toNat:=fun z=>by
  rw [BitVec.ofInt_natCast,BitVec.toNat_ofNat];exact Nat.mod_eq_of_lt z.toNat_lt
 show IntKind.u8.wrap (((BitVec.ofInt 8 (x.toNat:Int) ^^^ BitVec.ofInt 8 (m.toNat:Int)).toNat:Nat):Int)=_
 rw [BitVec.toNat_xor,h2,h2,<-UInt8.toNat_xor,IntKind.wrap_u8]
 have:=(x ^^^ m).toNat_lt
 omega
section
variable {P:Program}{a:Act}{o:Oper}{n:Nat}{e:List (Nat×Value)}{ds:List Deferred}{x y z:Operand}{w w0:World}{v:Value}{As Ls Rs:List Chunk}{K:Act->World->Prop}{Q:Exit->Act->World->Prop}
theorem dM {kt:TypeId}{k:IntKind}{q:Int}{b:Bool}(hk:P.underlying kt=some (.int k)):(Instr.checkKey b 10000 kt (.int k q)).run P w = .ok () w :=
 Go.MapKept.run_checkKey (n:=9999) hk (by simp [Go.MapKept.IsKey]) b
theorem z7 (E:Fr a n e ds){t kt et:TypeId}{r i clock:Nat}{es:Array MapEntry}{k:IntKind}{q:Int}(ho:o.op = .lookup t x y true)(hx:ev e x=some (.map (some r)))(hy:ev e y=some (.int k q))(ht:P.underlying t=some (.map kt et))(hk:P.underlying kt=some (.int k))
  (hb:w.heap[r]? = some (.map es clock)) (hf:Instr.findNow (.int k) (.int k q) es.toList 0=some (some (i,v))):ab P o a w (.tuple #[v,.bool true]) w:=by
 simp [ab,execOp,ho,E.eval hx,E.eval hy,Instr.lookup,run_underlying ht,Go.MapKept.run_getObj_map hb,dM hk,Go.MapKept.run_findKey hk hf]
theorem yk (E:Fr a n e ds){t kt et:TypeId}{r clock:Nat}{es:Array MapEntry}{k:IntKind}{q:Int}{ti:TypeInfo}(ho:o.op = .lookup t x y true)(hx:ev e x=some (.map (some r)))(hy:ev e y=some (.int k q))(ht:P.underlying t=some (.map kt et))(hk:P.underlying kt=some (.int k))
  (hi:P.info? et=some ti) (hz:ti.zero=some v) (hb:w.heap[r]? = some (.map es clock)) (hf:Instr.findNow (.int k) (.int k q) es.toList 0=some none):ab P o a w (.tuple #[v,.bool false]) w:=by
 simp [ab,execOp,ho,E.eval hx,E.eval hy,Instr.lookup,run_underlying ht,Go.MapKept.run_getObj_map hb,dM hk,Go.MapKept.run_findKey hk hf,zeroValue,typeInfo,hi,hz]
theorem GF (E:Fr a n e ds){t kt et:TypeId}{r i clock:Nat}{es:Array MapEntry}{k:IntKind}{q:Int}(ho:o.op = .lookup t x y false)(hx:ev e x=some (.map (some r)))(hy:ev e y=some (.int k q))(ht:P.underlying t=some (.map kt et))(hk:P.underlying kt=some (.int k))
  (hb:w.heap[r]? = some (.map es clock)) (hf:Instr.findNow (.int k) (.int k q) es.toList 0=some (some (i,v))):ab P o a w v w:=by
 simp [ab,execOp,ho,E.eval hx,E.eval hy,Instr.lookup,run_underlying ht,Go.MapKept.run_getObj_map hb,dM hk,Go.MapKept.run_findKey hk hf]
theorem vu (E:Fr a n e ds){t kt et:TypeId}{r clock:Nat}{es:Array MapEntry}{k:IntKind}{q:Int}{ti:TypeInfo}(ho:o.op = .lookup t x y false)(hx:ev e x=some (.map (some r)))(hy:ev e y=some (.int k q))(ht:P.underlying t=some (.map kt et))(hk:P.underlying kt=some (.int k))
  (hi:P.info? et=some ti) (hz:ti.zero=some v) (hb:w.heap[r]? = some (.map es clock)) (hf:Instr.findNow (.int k) (.int k q) es.toList 0=some none):ab P o a w v w:=by
 simp [ab,execOp,ho,E.eval hx,E.eval hy,Instr.lookup,run_underlying ht,Go.MapKept.run_getObj_map hb,dM hk,Go.MapKept.run_findKey hk hf,zeroValue,typeInfo,hi,hz]
theorem GG (E:Fr a n e ds)(S:St w0 As w Ls){t:TypeId}{d:Nat}(ho:o.op = .makeMap t none)(hd:o.dst=some d)(hn:d<n)
  (k:∀a' w' b,Fr a' n ((d,.map (some b)) :: e) ds->St w0 As w' ([(b,.map #[] 0)] :: Ls)->K a' w'):o.wp P a w K Q:=by
 have dQ:ab P o a w (.map (some w.heap.size)) (w.alloc (.map #[] 0)):=by
  have _:=E.Kn
  simp [ab,execOp,ho,Go.RowKit.run_makeMap]
 exact dQ.wp (by rw [hd];exact k _ _ w.heap.size (E.put hn _) (S.alloc _))
theorem bQ {r:Nat}{ob ob':Obj}(S:St w0 As w Ls)(hp:Ls.Perm ([(r,ob)] :: Rs)):St w0 As { w with heap:=w.heap.setIfInBounds r ob' } ([(r,ob')] :: Rs) :=
 S.block hp rfl rfl rfl (by simp) (fun h=>by have:=(Array.getElem?_eq_some_iff.1 h).1;simp [this]) (fun k hk=>by simp [Ne.symm hk])
theorem Kz (E:Fr a n e ds)(S:St w0 As w Ls){t kt et:TypeId}{r clock:Nat}{es:Array MapEntry}{k:IntKind}{q:Int}(ho:o.op = .mapUpdate t x y z\/o.op = .insert t x y z)(hd:o.dst=none)(hx:ev e x=some (.map (some r)))(hy:ev e y=some (.int k q))(hz:ev e z=some v)
  (ht:P.underlying t=some (.map kt et)) (hk:P.underlying kt=some (.int k)) (hp:Ls.Perm ([(r,.map es clock)] :: Rs)) (hf:Instr.findNow (.int k) (.int k q) es.toList 0=some none)
  (kk:∀a' w',Fr a' n e ds->St w0 As w' ([(r,.map (es.push { key:=.int k q,val:=v,born:=clock }) (clock+1))] :: Rs)->K a' w'):o.wp P a w K Q:=by
 have hb:=S.get hp
 refine jg.wp (w':={ w with heap:=w.heap.setIfInBounds r (.map (es.push { key:=.int k q,val:=v,born:=clock }) (clock+1)) }) ?_ (by rw [hd];exact kk _ _ (E.CH _) (bQ S hp))
 unfold jg
 rcases ho with ho | ho <;> simp [execOp,ho,E.eval hx,E.eval hy,E.eval hz,Instr.mapUpdate,run_underlying ht,Go.MapKept.run_getObj_map hb,dM hk,Go.MapKept.run_findKey hk hf,Go.MapKept.run_setObj_map _ hb]
end
section
variable {P:Program}{a:Act}{o:Oper}{n:Nat}{e:List (Nat×Value)}{ds:List Deferred}{x y z:Operand}{w w0:World}{v:Value}{As Ls Rs:List Chunk}{K:Act->World->Prop}{Q:Exit->Act->World->Prop}
structure Me where
 key:Int
 val:Value
 born:Nat
abbrev Me.en (k:IntKind)(m:Me):MapEntry:={ key:=.int k m.key,val:=m.val,born:=m.born }
abbrev jG (k:IntKind)(L:List Me):Array MapEntry:=(L.map (Me.en k)).toArray
structure vv (L:List Me)(clock:Nat):Prop where
 born:∀m∈L,m.born<clock
 nb:(L.map (·.born)).Nodup
 nk:(L.map (·.key)).Nodup
theorem Of (c:Nat):vv [] c:=⟨by simp,by simp,by simp⟩
theorem qx {k:IntKind}{q:Int}:∀ {L:List Me} (i:Nat),(∀m∈L,m.key≠q)->Instr.findNow (.int k) (.int k q) (L.map (Me.en k)) i=some none
 | [],i,_=>rfl
 | m :: r,i,h=>by
  have h1:=h m (mem_cons_self ..)
  have h2:=qx (k:=k) (L:=r) (i+1) fun z hz=>h z (mem_cons_of_mem _ hz)
  have h3:Instr.sameNow (.int k) (.int k q) (.int k m.key)=some false:=by
   simp [Instr.sameNow,Ne.symm h1]
  simp [Instr.findNow,h3,h2]
theorem uo {k:IntKind}{m:Me}:∀ {A B:List Me} (i:Nat),(∀z∈A,z.key≠m.key)->Instr.findNow (.int k) (.int k m.key) ((A++m :: B).map (Me.en k)) i=some (some (i+A.length,m.val))
 | [],B,i,_=>by
  have h3:Instr.sameNow (.int k) (.int k m.key) (.int k m.key)=some true:=by simp [Instr.sameNow]
  simp [Instr.findNow,h3]
 | z :: A,B,i,h=>by
  have h1:=h z (mem_cons_self ..)
  have h2:=uo (k:=k) (m:=m) (A:=A) (B:=B) (i+1) fun u hu=>h u (mem_cons_of_mem _ hu)
  have h3:Instr.sameNow (.int k) (.int k m.key) (.int k z.key)=some false:=by
   simp [Instr.sameNow,Ne.symm h1]
  rw [cons_append,map_cons]
  simp only [Instr.findNow,Me.en,h3]
  rw [h2,length_cons,Nat.add_assoc,Nat.add_comm 1]
theorem CY (k:IntKind)(L:List Me)(m:Me):(jG k L).push (Me.en k m)=jG k (L++[m]):=by
 apply Array.toList_inj.1;simp
theorem GH (k:IntKind)(A B:List Me)(m:Me)(v:Value):(jG k (A++m :: B)).modify A.length (fun e=>{ e with key:=.int k m.key,val:=v })=jG k (A++{ m with val:=v } :: B):=by
 apply Array.ext
 ·simp
 ·intro i h1 h2
  rw [Array.getElem_modify]
  simp only [jG,map_append,map_cons,getElem_toArray]
  by_cases c:A.length=i
  ·subst c
   rw [if_pos rfl]
   simp [Me.en]
  ·rw [if_neg c,getElem_append,getElem_append]
   split
   ·rfl
   ·rename_i hc
    simp only [length_map] at hc ⊢
    obtain ⟨j,hj⟩:∃j,i - A.length=j+1:=⟨i - A.length - 1,by omega⟩
    simp only [hj,getElem_cons_succ]
theorem KA (k:IntKind)(A B:List Me)(m:Me):(jG k (A++m :: B)).eraseIdxIfInBounds A.length=jG k (A++B):=by
 apply Array.toList_inj.1
 rw [Array.eraseIdxIfInBounds]
 rw [dif_pos (by simp)]
 simp [eraseIdx_append_of_length_le]
theorem yW {L:List Me}{clock:Nat}(h:vv L clock){m:Me}(hm:m.born=clock)(hk:∀z∈L,z.key≠m.key):vv (L++[m]) (clock+1):=by
 refine ⟨fun z hz => ?_, ?_, ?_⟩
 ·rcases List.mem_append.1 hz with hz | hz
  ·have:=h.born z hz;omega
  ·rw [mem_singleton.1 hz];omega
 ·rw [map_append,nodup_append]
  refine ⟨h.nb,by simp,fun i hi j hj => ?_⟩
  obtain ⟨z,hz,rfl⟩:=mem_map.1 hi
  simp only [map_cons,map_nil,mem_singleton] at hj
  have:=h.born z hz;omega
 ·rw [map_append,nodup_append]
  refine ⟨h.nk,by simp,fun i hi j hj => ?_⟩
  obtain ⟨z,hz,rfl⟩:=mem_map.1 hi
  simp only [map_cons,map_nil,mem_singleton] at hj
  rw [hj];exact hk z hz
theorem Og {L M:List Me}{clock:Nat}(h:vv L clock)(hs:M.Sublist L):vv M clock :=
 ⟨fun z hz=>h.born z (hs.subset hz),(hs.map _).nodup h.nb,(hs.map _).nodup h.nk⟩
theorem Oh {A B:List Me}{m:Me}{clock:Nat}{v:Value}(h:vv (A++m :: B) clock):vv (A++{ m with val:=v } :: B) clock:=by
 obtain ⟨h1,h2,h3⟩:=h
 refine ⟨fun z hz => ?_,by simpa using h2,by simpa using h3⟩
 rcases List.mem_append.1 hz with hz | hz
 ·exact h1 z (mem_append_left _ hz)
 ·rcases List.mem_cons.1 hz with rfl | hz
  ·exact h1 m (mem_append_right _ (mem_cons_self ..))
  ·exact h1 z (mem_append_right _ (mem_cons_of_mem _ hz))
theorem KB (E:Fr a n e ds)(S:St w0 As w Ls){t kt et:TypeId}{r clock:Nat}{k:IntKind}{A B:List Me}{m:Me}(ho:o.op = .mapUpdate t x y z)(hd:o.dst=none)(hx:ev e x=some (.map (some r)))(hy:ev e y=some (.int k m.key))(hz:ev e z=some v)
  (ht:P.underlying t=some (.map kt et)) (hk:P.underlying kt=some (.int k)) (hp:Ls.Perm ([(r,.map (jG k (A++m :: B)) clock)] :: Rs)) (hA:∀z∈A,z.key≠m.key)
  (kk:∀a' w',Fr a' n e ds->St w0 As w' ([(r,.map (jG k (A++{ m with val:=v } :: B)) clock)] :: Rs)->K a' w'):o.wp P a w K Q:=by
 have hb:=S.get hp
 have hf:=uo (k:=k) (m:=m) (A:=A) (B:=B) 0 hA
 rw [Nat.zero_add] at hf
 have hj:(jG k (A++m :: B))[A.length]? = some (Me.en k m):=by simp
 have S5:=GH k A B m v
 have hf:Instr.findNow (.int k) (.int k m.key) (jG k (A++m :: B)).toList 0=some (some (A.length,m.val)):=hf
 rw [<-S5] at kk
 clear S5
 generalize jG k (A++m :: B)=es at *
 refine jg.wp (w':={ w with heap:=w.heap.setIfInBounds r (.map (es.modify A.length (fun e=>{ e with key:=.int k m.key,val:=v })) clock) }) ?_ (by rw [hd];exact kk _ _ (E.CH _) (bQ S hp))
 unfold jg
 have yX:(Instr.keyThatStays (.int k m.key) (.int k m.key)).run P w = .ok (.int k m.key) w:=Go.MapKept.run_keyThatStays (d:=.int k) (by simp [Go.MapKept.IsKey])
 simp [execOp,ho,E.eval hx,E.eval hy,E.eval hz,Instr.mapUpdate,run_underlying ht,Go.MapKept.run_getObj_map hb,dM hk,Go.MapKept.run_findKey hk hf,hj,yX,Go.MapKept.run_setObj_map _ hb]
theorem KC (E:Fr a n e ds)(S:St w0 As w Ls){t tk kt et:TypeId}{r clock:Nat}{k:IntKind}{A B:List Me}{m:Me}(ho:o.op = .call { callee:=.builtin .delete,args:=#[x,y],argTypes:=#[t,tk] })(hd:o.dst=none)(hx:ev e x=some (.map (some r)))(hy:ev e y=some (.int k m.key))
  (ht:P.underlying t=some (.map kt et)) (hk:P.underlying kt=some (.int k)) (hp:Ls.Perm ([(r,.map (jG k (A++m :: B)) clock)] :: Rs)) (hA:∀z∈A,z.key≠m.key)
  (kk:∀a' w',Fr a' n e ds->St w0 As w' ([(r,.map (jG k (A++B)) clock)] :: Rs)->K a' w'):o.wp P a w K Q:=by
 have hb:=S.get hp
 have hf:=uo (k:=k) (m:=m) (A:=A) (B:=B) 0 hA
 rw [Nat.zero_add] at hf
 have hf:Instr.findNow (.int k) (.int k m.key) (jG k (A++m :: B)).toList 0=some (some (A.length,m.val)):=hf
 rw [<-KA k A B m] at kk
 generalize jG k (A++m :: B)=es at *
 have dQ:ab P o a w (.tuple #[]) { w with heap:=w.heap.setIfInBounds r (.map (es.eraseIdxIfInBounds A.length) clock) }:=by
  simp [ab,execOp,ho,resolve,invoke,builtin,E.eval hx,E.eval hy,Builtin.delete_,run_underlying ht,Go.MapKept.run_getObj_map hb,dM hk,Go.MapKept.run_findKey hk hf,Go.MapKept.run_setObj_map _ hb]
 refine dQ.wp ?_
 rw [hd];exact kk _ _ (E.CH _) (bQ S hp)
theorem CZ (E:Fr a n e ds)(S:St w0 As w Ls){t kt et:TypeId}{d r clock:Nat}{es:Array MapEntry}(ho:o.op = .range t x)(hd:o.dst=some d)(hn:d<n)(hx:ev e x=some (.map (some r)))
  (ht:P.underlying t=some (.map kt et)) (hp:Ls.Perm ([(r,.map es clock)] :: Rs))
  (kk:∀a' w' b,Fr a' n ((d,ptr b) :: e) ds->St w0 As w' ([(b,.mapIter (some r) clock #[] clock)] :: Ls)->K a' w'):o.wp P a w K Q:=by
 have hb:=S.get hp
 have dQ:ab P o a w (ptr w.heap.size) (w.alloc (.mapIter (some r) clock #[] clock)):=by
  simp [ab,execOp,ho,E.eval hx,Instr.range,run_underlying ht,Go.MapKept.run_getObj_map hb]
 exact dQ.wp (by rw [hd];exact kk _ _ w.heap.size (E.put hn _) (S.alloc _))
theorem TI (E:Fr a n e ds)(S:St w0 As w Ls){d r it since last clock:Nat}{seen:Array Nat}{es:Array MapEntry}(ho:o.op = .next x false)(hd:o.dst=some d)(hn:d<n)(hx:ev e x=some (ptr it))
  (hp:Ls.Perm ([(it,.mapIter (some r) since seen last)] :: [(r,.map es clock)] :: Rs)) (hold:∀m∈es.toList,m.born<since) (fS:since<=last)
  (kk:∀a' w' u,Fr a' n ((d,u) :: e) ds->((u = .tuple #[.bool false]/\(∀m∈es.toList,m.born∈seen.toList)/\St w0 As w' ([(it,.mapIter (some r) since seen last)] :: [(r,.map es clock)] :: Rs)) \/
   ∃m∈es.toList,m.born∉seen.toList/\u = .tuple #[.bool true,m.key,m.val]/\St w0 As w' ([(it,.mapIter (some r) since (seen.push m.born) clock)] :: [(r,.map es clock)] :: Rs))->K a' w'):o.wp P a w K Q:=by
 have hi:=S.get hp
 have hb:=S.get (hp.trans (List.Perm.swap _ _ _))
 have sj:∀m∈(es.filter fun e => !seen.contains e.born).toList,m∈es.toList/\m.born∉seen.toList:=fun m hm=>by
  simp at hm ⊢;exact hm
 have abu:(es.filter fun e => !seen.contains e.born).size=0->∀m∈es.toList,m.born∈seen.toList:=fun h0 m hm=>by
  have h1:=Array.eq_empty_of_size_eq_zero h0
  rw [Array.filter_eq_empty_iff] at h1
  have:=h1 m (by simpa using hm)
  simpa using this
 have pj:((es.filter fun e => !seen.contains e.born).size=0/\ab P o a w (.tuple #[.bool false]) w) \/
   ∃m∈(es.filter fun e => !seen.contains e.born).toList,∃w1:World,(w1=w\/w1=w.drew)/\ab P o a w (.tuple #[.bool true,m.key,m.val]) { w1 with heap:=w1.heap.setIfInBounds it (.mapIter (some r) since (seen.push m.born) clock) }:=by
  have hgi:(getObj it).run P w = .ok (.mapIter (some r) since seen last) w:=by simp [getObj,Sem.run,hi,Result.andThen]
  simp only [ab,execOp,ho,E.eval hx,Instr.next,Sem.run_bind,hgi,Result.andThen,Go.MapKept.run_getObj_map hb,next_test_false seen es since last hold fS,Bool.false_eq_true,if_false]
  have KD:∀x∈(Array.filter (fun e => !seen.contains e.born) es).toList,x.born<since:=fun x hx=>hold x (sj x hx).1
  generalize Array.filter (fun e => !seen.contains e.born) es=L at KD ⊢
  have e1:L.filter (fun x=>decide (x.born<since))=L:=Array.filter_eq_self.2 (fun x hx=>by simpa using KD x (by simpa using hx))
  have e2:L.filter (fun x=>decide (x.born ≥ since))=#[]:=by
   rw [Array.filter_eq_empty_iff]
   intro x hx
   have:=KD x (by simpa using hx)
   simp
   omega
  simp only [e1,e2,Array.append_empty]
  by_cases h0:L.size=0
  ·left
   have:L=#[]:=Array.eq_empty_of_size_eq_zero h0
   subst this
   refine ⟨rfl, ?_⟩
   simp [choose,Sem.run,Question.forced,Result.andThen]
  ·right
   have ey:L.isEmpty=false:=by simp [Array.isEmpty,h0]
   simp only [ey,Bool.false_eq_true,if_false,Array.empty_append,Array.size_map]
   have TJ:∃(j:Nat) (w1:World),j<L.size/\(w1=w\/w1=w.drew)/\(choose (Question.mapNext L.size)).run P w = .ok j w1:=by
    by_cases hf:L.size<=1
    ·exact ⟨0,w,by omega,.inl rfl,by simp [choose,Sem.run,Question.forced,hf]⟩
    ·exact ⟨_,w.drew,Nat.mod_lt _ oZ,.inr rfl,by
      simp only [choose,Sem.run,Question.forced,decide_eq_true_eq,hf,if_false,Question.cut]
      rfl⟩
   obtain ⟨j,w1,hj,No,dQ⟩:=TJ
   have hi1:w1.heap[it]? = some (.mapIter (some r) since seen last):=by rcases No with rfl | rfl <;> exact hi
   have eQ:(setObj it (.mapIter (some r) since (seen.push L[j].born) clock)).run P w1 = .ok () { w1 with heap:=w1.heap.setIfInBounds it (.mapIter (some r) since (seen.push L[j].born) clock) }:=by
    simp [setObj,Sem.run,hi1]
   refine ⟨L[j],by simp,w1,No, ?_⟩
   simp only [dQ,Array.getElem?_map,Array.getElem?_eq_getElem hj,Option.map_some,Sem.run_bind,eQ,Result.andThen]
   rfl
 rcases pj with ⟨h0,hr⟩ | ⟨m,hm,w1,No,hr⟩
 ·exact hr.wp (by rw [hd];exact kk _ _ _ (E.put hn _) (.inl ⟨rfl,abu h0,S.perm hp⟩))
 ·obtain ⟨h1,h2⟩:=sj m hm
  refine hr.wp ?_
  rw [hd]
  refine kk _ _ _ (E.put hn _) (.inr ⟨m,h1,h2,rfl, ?_⟩)
  rcases No with rfl | rfl
  ·exact bQ S hp
  ·exact bQ S.drew hp
theorem Da (E:Fr a n e ds)(S:St w0 As w Ls){d r it since last clock:Nat}{seen:Array Nat}{k:IntKind}{L:List Me}(ho:o.op = .next x false)(hd:o.dst=some d)(hn:d<n)(hx:ev e x=some (ptr it))
  (hp:Ls.Perm ([(it,.mapIter (some r) since seen last)] :: [(r,.map (jG k L) clock)] :: Rs)) (hold:∀m∈L,m.born<since) (fS:since<=last)
  (kk:∀a' w' u,Fr a' n ((d,u) :: e) ds->((u = .tuple #[.bool false]/\(∀m∈L,m.born∈seen.toList)/\St w0 As w' ([(it,.mapIter (some r) since seen last)] :: [(r,.map (jG k L) clock)] :: Rs)) \/
   ∃m∈L,m.born∉seen.toList/\u = .tuple #[.bool true,.int k m.key,m.val]/\St w0 As w' ([(it,.mapIter (some r) since (seen.push m.born) clock)] :: [(r,.map (jG k L) clock)] :: Rs))->K a' w'):o.wp P a w K Q:=by
 have jH:∀m,m∈(jG k L).toList↔∃z∈L,Me.en k z=m:=fun m=>by simp
 refine TI E S ho hd hn hx hp (fun m hm => ?_) fS fun a' w' u E' h=>kk a' w' u E' ?_
 ·obtain ⟨z,hz,rfl⟩:=(jH m).1 hm
  exact hold z hz
 ·rcases h with ⟨h1,h2,h3⟩ | ⟨m,hm,h1,h2,h3⟩
  ·exact .inl ⟨h1,fun m hm=>h2 (Me.en k m) ((jH _).2 ⟨m,hm,rfl⟩),h3⟩
  ·obtain ⟨z,hz,rfl⟩:=(jH m).1 hm
   exact .inr ⟨z,hz,h1,h2,h3⟩
theorem Db (E:Fr a n e ds){it r since clock:Nat}{seen:Array Nat}{k:IntKind}{L:List Me}{m:Me}(ho:o.op = .entry x)(hx:ev e x=some (ptr it))(hi:w.heap[it]? = some (.mapIter (some r) since (seen.push m.born) clock))(hb:w.heap[r]? = some (.map (jG k L) clock))(hm:m∈L)(hn:(L.map (·.born)).Nodup):ab P o a w (.tuple #[.int k m.key,m.val]) w:=by
 have hf:(jG k L).find? (·.born==m.born)=some (Me.en k m):=by
  rw [<-Array.find?_toList]
  exact find_born (Me.en k m) (jG k L).toList (by rw [show (jG k L).toList.map (·.born)=L.map (·.born) by simp];exact hn) (by simp;exact ⟨m,hm,rfl,rfl,rfl⟩)
 generalize jG k L=es at *
 simp [ab,execOp,ho,E.eval hx,Instr.entry,getObj,Sem.run,hi,hb,hf,Result.andThen,Array.back?_push]
end
inductive Bt (α:Type) where
 | lf
 | nd (l:Bt α) (k:Nat) (v:α) (r:Bt α)
def Bt.get {α:Type}:Bt α->Nat->Option α
 | .lf,_=>none
 | .nd l k v r,i=>match Nat.blt i k with
  | true=>l.get i
  | false=>match Nat.beq i k with
   | true=>some v
   | false=>r.get i
theorem Oi {α:Type}{g:Nat->Option α}{n:Nat}{l:List α}(h:(List.range n).map g=l.map some){i:Nat}{v:α}(hi:(match Nat.blt i n with | true=>g i | false=>none)=some v):l[i]? = some v:=by
 split at hi
 ·rename_i hb
  have br:i<n:=Nat.le_of_ble_eq_true hb
  have h1:((List.range n).map g)[i]? = (l.map some)[i]?:=by rw [h]
  rw [getElem?_map,getElem?_map,getElem?_range br,Option.map_some,hi] at h1
  cases hl:l[i]? with
  | none=>rw [hl] at h1;cases h1
  | some u=>rw [hl] at h1;simp only [Option.map_some,Option.some.injEq] at h1;rw [h1]
 ·cases hi
def TK {α:Type}:List Nat->(n:Nat)->(Nat->Option α)->Option α
 | [],n,k=>k n
 | a :: l,n,k=>bif Nat.beq n a then k a else TK l n k
theorem IP {α:Type}(n:Nat)(k:Nat->Option α):∀l:List Nat,TK l n k=k n
 | []=>rfl
 | a :: l=>by
  unfold TK
  cases h:Nat.beq n a with
  | true=>rw [Nat.eq_of_beq_eq_true h];rfl
  | false=>exact IP n k l
def YW {α:Type}(n:Nat)(k:Nat->Option α):Option α:=TK [64,32,128,256,130,144,72,48,40,96,66,608,56,80,88,104,112,120,136,152,160,26,28,30,36] n k
theorem IQ {α:Type}(n:Nat)(k:Nat->Option α):YW n k=k n:=IP n k _
def lit {α:Type}(n:Nat)(k:Nat->Option α):Option α:=match n with
 | 0=>k 0
 | 1=>k 1
 | 2=>k 2
 | 3=>k 3
 | 4=>k 4
 | 5=>k 5
 | 6=>k 6
 | 7=>k 7
 | 8=>k 8
 | 9=>k 9
 | 10=>k 10
 | 11=>k 11
 | 12=>k 12
 | 13=>k 13
 | 14=>k 14
 | 15=>k 15
 | 16=>k 16
 | 17=>k 17
 | 18=>k 18
 | 19=>k 19
 | 20=>k 20
 | 21=>k 21
 | 22=>k 22
 | 23=>k 23
 | 24=>k 24
 | n=>YW n k
theorem vx {α:Type}(n:Nat)(k:Nat->Option α):lit n k=k n:=by
 unfold lit
 split <;> first | rfl | exact IQ _ _
structure aW where
 ty:Nat->Option TypeInfo
 fn:Nat->Option Func
structure aW.Ok (T:aW)(P:Program):Prop where
 ty:∀t i,T.ty t=some i->P.info? t=some i
 fn:∀g f,T.fn g=some f->P.funcs[g]? = some f
theorem aW.abv {T:aW}{P:Program}{ts:Array TypeInfo}{fs:Array Func}(h1:P.types=ts)(h2:P.funcs=fs)(h3:∀t i,T.ty t=some i->ts.toList[t]? = some i)(h4:∀g f,T.fn g=some f->fs.toList[g]? = some f):T.Ok P:=by
 subst h1 h2
 exact ⟨fun t i h=>by
  have:=h3 t i h
  rw [Array.getElem?_toList] at this
  have br:=(Array.getElem?_eq_some_iff.1 this).1
  show (if t<P.types.size then P.types[t]? else Made.infoAt P.toTables Made.depth t)=some i
  rw [if_pos br];exact this,fun t i h=>by have:=h4 t i h;rw [Array.getElem?_toList] at this;exact this⟩
def aW.kW (T:aW)(t:Nat):Option TypeDesc:=match T.ty t with
 | some i=>match i.desc with
  | .named _ u=>match T.ty u with
   | some j=>some j.desc
   | none=>none
  | d=>some d
 | none=>none
def aW.sz (T:aW)(t:Nat):Option Nat:=match T.ty t with
 | some i=>lit i.size some
 | none=>none
section
variable {T:aW}{P:Program}(hT:T.Ok P)
include hT
theorem aW.aU {t:Nat}{d:TypeDesc}(h:T.kW t=some d):P.underlying t=some d:=by
 unfold aW.kW at h
 unfold Program.underlying
 split at h
 ·rename_i i hi
  rw [hT.ty _ _ hi]
  split at h
  ·rename_i nm u hd
   split at h
   ·rename_i j hj
    cases h
    obtain ⟨desc,_,_,_,_,_,_,_,_,_⟩:=i
    simp only at hd
    subst hd
    simp [hT.ty _ _ hj]
   ·cases h
  ·rename_i d' hd
   cases h
   obtain ⟨desc,_,_,_,_,_,_,_,_,_⟩:=i
   cases desc <;> first | rfl | exact absurd rfl (hd _ _)
 ·cases h
theorem aW.tq {t s:Nat}(h:T.sz t=some s):(P.info? t).map (·.size)=some s:=by
 unfold aW.sz at h
 split at h
 ·rename_i i hi;rw [vx] at h;cases h;rw [hT.ty _ _ hi];rfl
 ·cases h
end
def aW.fld (T:aW)(s f:Nat):Option Nat:=match T.kW s with
 | some (.struct ⟨fs⟩)=>match fs[f]? with
  | some fd=>match T.ty fd.type with
   | some i=>match i.size with
    | 0=>none
    | _+1=>lit fd.offset some
   | none=>none
  | none=>none
 | _=>none
def aW.Xf (T:aW)(t:Nat):Bool:=match T.kW t with
 | some (.struct _) | some (.array _ _) | none=>false
 | some _=>true
def aW.agg (T:aW)(t:Nat):Option Nat:=match T.kW t with
 | some (.struct _) | some (.array _ _)=>T.sz t
 | _=>none
def aW.places (T:aW):List Field->Option (List (Nat×Nat))
 | []=>some []
 | f :: fs=>match T.ty f.type,T.places fs with
  | some i,some r=>some ((f.offset,i.size) :: r)
  | _,_=>none
def aW.built (T:aW)(t:Nat)(qs:List (Nat×Value)):Option (List Value) :=
 match T.ty t with
 | some it=>match it.zero with
  | some zv=>match T.kW t with
   | some (.array _ el)=>match T.ty el with
    | some ie=>kq (fun i=>some (i*ie.size,ie.size)) zv.cells.toList qs
    | none=>none
   | some (.struct ⟨fields⟩)=>match T.places fields with
    | some places=>kq (places[·]?) zv.cells.toList qs
    | none=>none
   | _=>none
  | none=>none
 | none=>none
section
variable {T:aW}{P:Program}(hT:T.Ok P)
include hT
theorem aW.Oj {s f q:Nat}(h:T.fld s f=some q):nf P s f=some q:=by
 unfold aW.fld at h
 split at h
 ·rename_i fs hs
  split at h
  ·rename_i fd hf
   split at h
   ·rename_i i hi
    split at h
    ·cases h
    ·rename_i m hm
     rw [vx] at h
     cases h
     unfold nf
     rw [aW.aU hT hs]
     simp only
     rw [show (⟨fs⟩:Array Field)[f]? = some fd by simpa using hf]
     simp only [hT.ty _ _ hi]
     rw [if_neg oZ]
   ·cases h
  ·cases h
 ·cases h
theorem aW.vy {t:Nat}(h:T.Xf t=true):scalar P t=true:=by
 unfold aW.Xf at h
 unfold scalar
 cases hu:T.kW t with
 | none=>rw [hu] at h;cases h
 | some d=>rw [hu] at h;rw [aW.aU hT hu];exact h
theorem aW.vz {t q:Nat}(h:T.agg t=some q):km P t=some q:=by
 unfold aW.agg at h
 unfold km
 split at h
 ·rename_i hu;rw [aW.aU hT hu];exact aW.tq hT h
 ·rename_i hu;rw [aW.aU hT hu];exact aW.tq hT h
 ·cases h
theorem aW.yY:∀ {fs:List Field} {r:List (Nat×Nat)},T.places fs=some r->fs.mapM (fun f=>(P.info? f.type).map fun i=>(f.offset,i.size))=some r
 | [],r,h=>by simp only [aW.places,Option.some.injEq] at h;subst h;rfl
 | f :: fs,r,h=>by
  simp only [aW.places] at h
  split at h
  ·rename_i i r' hi hr
   cases h
   simp [mapM_cons,hT.ty _ _ hi,aW.yY hr]
  ·cases h
theorem aW.Ol {t:Nat}{qs:List (Nat×Value)}{cs:List Value}(h:T.built t qs=some cs):vc P t qs=some cs:=by
 unfold aW.built at h
 unfold vc
 split at h
 ·rename_i it hi
  split at h
  ·rename_i zv hz
   split at h
   ·rename_i n el hu
    split at h
    ·rename_i ie he;rw [hT.ty _ _ hi,aW.aU hT hu];simp only [hz,hT.ty _ _ he];exact h
    ·cases h
   ·rename_i fs hu
    split at h
    ·rename_i pl hp;rw [hT.ty _ _ hi,aW.aU hT hu];simp only [hz,aW.yY hT hp];exact h
    ·cases h
   ·cases h
  ·cases h
 ·cases h
end
end Go.Sl
