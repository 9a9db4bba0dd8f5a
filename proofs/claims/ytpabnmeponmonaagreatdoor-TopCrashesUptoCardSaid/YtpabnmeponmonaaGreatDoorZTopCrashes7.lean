/-
  7.
-/
import Derived.Test.YtpabnmeponmonaaGreatDoorZTopCrashes6
set_option maxRecDepth 10000
set_option maxHeartbeats 4000000
open List Go.Proofs.Tryz Go.Sl
namespace Go.Sl
structure fv where
 used:Bool
 size:Nat
 root:Pt
deriving DecidableEq
def eK:fv:=⟨false,0,ai⟩
def fv.lay (s:fv):List Value:=[.bool s.used,.int .i64 s.size,.int .i64 s.root.top,.int .i64 s.root.at_,.int .i64 s.root.bytes,.int .u64 s.root.bg,.int .i64 s.root.kind,.int .u64 s.root.a,.int .u64 s.root.b,.int .u64 s.root.c,.int .u64 s.root.d]
abbrev fv.agg (s:fv):Value:=.agg #[.bool s.used,.int .i64 s.size,.int .i64 s.root.top,.int .i64 s.root.at_,.int .i64 s.root.bytes,.int .u64 s.root.bg,.int .i64 s.root.kind,.int .u64 s.root.a,.int .u64 s.root.b,.int .u64 s.root.c,.int .u64 s.root.d]
theorem fv.ak (s:fv):s.lay.length=11:=rfl
structure fv.Ok (s:fv):Prop where
 no:s.used=false->s=eK
 size:s.size<=65536
 root:fK s.root=0
 ok:s.root.Ok
theorem wD:eK.Ok:=⟨fun _=>rfl,by simp [eK],by simp [eK,fK],dK⟩
def fx (s:fv):List UInt8:=ah (if s.used then 1 else 0) 1++replicate 3 0++ah s.size 4++dB s.root
theorem nZ (s:fv):(fx s).length=72:=by simp [fx,aj,bc]
def fM (l:List fv):List UInt8:=l.flatMap fx
theorem lj (l:List fv):(fM l).length=72*l.length:=by
 induction l with
 | nil=>rfl
 | cons x r ih=>simp only [fM,flatMap_cons,length_append,nZ,length_cons] at *;omega
theorem Lm {l:List fv}{i:Nat}(h:i<l.length):fM (l.take (i+1))=fM (l.take i)++fx l[i]:=by rw [fM,iB h,flatMap_append,flatMap_singleton];rfl
theorem Us (s:fv):cut (fx s) 0 1=ah (if s.used then 1 else 0) 1:=by
 simp only [cut,fx,drop_zero,append_assoc]
 exact take_left' (aj _ _)
theorem Ut (s:fv):(cut (fx s) 1 3)=replicate 3 0:=by
 simp only [cut,fx,append_assoc]
 rw [drop_left' (aj _ _),take_left' length_replicate]
theorem Uu (s:fv):cut (fx s) 4 4=ah s.size 4:=by
 unfold cut fx
 rw [append_assoc,drop_left' (by simp [aj]),take_left' (aj _ _)]
theorem Uv (s:fv):cut (fx s) 8 64=dB s.root:=by
 unfold cut fx
 rw [drop_left' (by simp [aj]),take_of_length_le (by rw [bc];omega)]
end Go.Sl
namespace Go.Proofs.YtpabnmeponmonaaGreatDoor
theorem Xw (s:fv)(h:s.Ok):Ct 132 [s.agg] [] fun u Bs=>u = .bool true/\Bs=[]:=by
 have h1:=kZ s.root h.root
 have hs:=h.size
 cases hu:s.used with
 | false =>
  have h0:=h.no hu
  subst h0
  refine st func132 fun w0 => ?_
  refine ga ?_;intro b1
  refine gz ?_
  exact fin ⟨rfl,rfl⟩ aa
 | true =>
  obtain ⟨u,n,r⟩:=s
  simp only at hu hs h1
  subst hu
  dsimp only [fv.agg]
  refine st func132 fun w0 => ?_
  refine ga ?_;intro b1
  refine gc h1 ?_
  rintro _ _ ⟨rfl,rfl⟩
  refine gz ?_
  exact fin ⟨rfl,rfl⟩ aa
theorem Uw (p:Nat)(bs:List UInt8)(i k:Nat)(A:Chunk)(hA:pH p bs i 0 A)(hi:i<=k/\k<=bs.length)(hz:cut bs i (k - i)=replicate (k - i) 0):Ct 212 [ptr p,.int .i64 k] [A] fun _ Bs=>∃A',pH p bs k 0 A'/\Bs=[A']:=by
 obtain ⟨g,hb,rfl⟩:=hA
 have hR:=Av bs hb g
 have hn:k - i=k - i:=rfl
 have hl:(cut bs i (k - i)).length=k - i:=by rw [hz,length_replicate]
 have qc:((au bs).drop (i*1)).take ((k - i)*1)=au (replicate (k - i) 0):=by
  rw [Nat.mul_one,Nat.mul_one,bo,aQ,<-hz];rfl
 refine st func212 fun w0 => ?_
 refine gs ?_
 refine ga ?_;intro b1
 refine ga ?_;intro b2
 refine ge ?_
 refine ge ?_
 refine gw ?_;intro ad kY
 refine gl [0,1,29,30] (fun j:Nat=>[(31,.int .i64 j)]) (fun _=>[]) (fun j=>j<=k - i) (fun j=>k - i - j) 0 (Nat.zero_le _) ?_
 rintro j hj
 refine gi ?_ ?_ <;> intro br
 ·have hx:(replicate (k - i) (0:UInt8))[j]? = some 0:=by rw [getElem?_replicate,if_pos oZ]
  obtain ⟨b,off,rfl⟩:=kY.addr oZ
  refine gn ?_
  exact ⟨j+1,by omega,by omega,ar,_,aa⟩
 ·refine gz ?_
  exact fin ⟨_,⟨g,hb,rfl⟩,rfl⟩ aa
theorem Ux (O:Chunk)(ad:Option Addr)(n c:Nat)(l:List fv)(hn:l.length=n)(hR:Rd O 11 (.slice ad n c) n (l.flatMap fv.lay))(hb:n<=112)(hp:∀s∈l,s.Ok) :
  Ct 69 [.slice ad n c] [O] fun u Bs=>∃g,u = .tuple #[.slice (some ⟨g,0,none⟩) (72*n) (72*n),.int .i64 0]/\Bs=[[(g,ax (au (fM l)) 5)],O]:=by
 refine st func69 fun w0 => ?_
 refine gc (wc (72*n) oZ) ?_
 rintro _ _ ⟨p,A,rfl,hA,rfl⟩
 refine gl [0,4,17,18] (fun ((i,_):Nat×Chunk)=>[(19,.int .i64 i)]) (fun (_,A)=>[A]) (fun (i,A)=>i<=n/\xY p (72*n) (fM (l.take i)) A) (fun (i,_)=>n - i) (0,A) ⟨by omega,hA⟩ ?_
 clear hA
 rintro ⟨i,A⟩ ⟨hi,hA⟩
 have hlen:(fM (l.take i)).length=72*i:=by rw [lj,length_take,hn];omega
 refine gi ?_ ?_ <;> intro br
 ·have bh:i<l.length:=oZ
  obtain ⟨s,Lo⟩:∃s,s=l[i]:=⟨_,rfl⟩
  have hx:l[i]? = some s:=by rw [Lo];exact getElem?_eq_getElem bh
  have hs:=av fv.ak l i _ hx
  have aO:=hp s (by rw [Lo];exact getElem_mem _)
  have bu:=aO.size
  obtain ⟨g,o,rfl⟩:=hR.addr oZ
  have aeS:=Xw s aO
  have aeT:=wx s.root aO.root aO.ok
  have aeU:=fun A1 h=>fT p (72*n) (fM (l.take i)) A1 (if s.used then 1 else 0) 1 h oZ (by split <;> omega) oZ
  have aca:=fun A1 h=>I9 p (72*n) (fM (l.take i)++ah (if s.used then 1 else 0) 1) A1 (72*i+4) h ⟨by rw [length_append,hlen,aj];omega,by omega⟩
  rw [show 72*i+4 - (fM (l.take i)++ah (if s.used then 1 else 0) 1).length=3 by rw [length_append,hlen,aj];omega] at aca
  have acb:=fun A1 h=>fT p (72*n) (fM (l.take i)++ah (if s.used then 1 else 0) 1++replicate 3 0) A1 s.size 4 h oZ oZ (by simp only [length_append,hlen,aj,length_replicate];omega)
  have qB:=Lm bh
  rw [<-Lo] at qB
  have yj:=fun A1 D v h hD=>nX p (72*n) (fM (l.take i)++ah (if s.used then 1 else 0) 1++replicate 3 0++ah s.size 4) (dB s.root) A1 D v h hD (by simp only [length_append,hlen,aj,length_replicate,bc];omega)
  rw [show fM (l.take i)++ah (if s.used then 1 else 0) 1++replicate 3 0++ah s.size 4++dB s.root=fM (l.take (i+1)) by rw [qB];simp [fx]] at yj
  have hRe:∀Xv,Rd [(Xv,ax (au (dB s.root)) 5)] 1 (.slice (some ⟨Xv,0,none⟩) 64 64) (dB s.root).length (au (dB s.root)):=fun Xv=>by
   rw [bc];exact ay (by rw [aq,bc]) (aP _) oZ _
  clear qB Lo hx aO
  obtain ⟨used,size,root⟩:=s
  cases used
  all_goals
   simp only [if_pos,if_neg,Bool.false_eq_true,fv.lay] at *
   refine ga ?_;intro b6
   refine gc aeS ?_
   rintro _ _ ⟨rfl,rfl⟩
   refine gc aeT ?_
   rintro _ _ ⟨Xv,rfl,rfl⟩
   refine gc (aeU A hA) ?_
   rintro _ _ ⟨A1,mV,rfl⟩
   refine gc (aca A1 mV) ?_
   rintro _ _ ⟨A2,l4,rfl⟩
   refine gc (acb A2 l4) ?_
   rintro _ _ ⟨A3,wv,rfl⟩
   refine gc (yj A3 _ _ wv (hRe Xv)) ?_
   rintro _ _ ⟨A4,x4,rfl⟩
   refine gn ?_
   exact ⟨(i+1,A4),⟨by omega,x4⟩,sOZ,ar,_,aa⟩
 ·obtain rfl:i=n:=oZ
  rw [take_of_length_le oZ] at hA hlen
  have hD:=pG p _ (fM l) A hA oZ
  rw [hlen] at hD
  refine gc hD ?_
  rintro _ _ ⟨g,rfl,rfl⟩
  refine gz ?_
  exact fin ⟨g,rfl,rfl⟩ aa
end Go.Proofs.YtpabnmeponmonaaGreatDoor
namespace Go.Sl
def cost (n:Nat):Nat:=if n=0 then 0 else ((n - 1) / 1024+1)+(((n - 1) / 1024+1 - 1) / 16+1)+1
theorem l7 {n:Nat}(h:n<=65536):cost n<=69:=by unfold cost;split <;> omega
end Go.Sl
namespace Go.Proofs.YtpabnmeponmonaaGreatDoor
theorem Uy (O:Chunk)(ad:Option Addr)(n c k:Nat)(l:List fv)(hk:l.length=k)(hn:n=72*k)(hR:Rd O 1 (.slice ad n c) n (au (fM l)))(hc:n<=c)(hb:1<=k/\k<=112)(hp:∀s∈l,s.Ok) :
  Ct 145 [.slice ad n c] [O] fun u Bs=>∃bz c' D,u = .tuple #[.slice bz k c',.int .i64 0]/\aC D 146 11 (.slice bz k c') k (l.flatMap fv.lay)/\Bs=[D,O]:=by
 subst hn
 have TJ:jV 72 (fM l)=l.map fx:=qL oZ nZ l
 have hN:dh (72*k) 72=k:=pJ oZ oZ
 have hm0:(72*k) % 72=0:=oZ
 refine st func145 fun w0 => ?_
 refine gc (sJ O ad _ c 72 _ (by rw [lj,hk]) hR hc oZ oZ) ?_
 rintro _ _ ⟨iY,c1,vs,D0,V0,rfl,Gb,Ur,rfl⟩
 rw [hN] at Gb ⊢
 rw [TJ] at Ur
 have wC:=Gb.rd
 obtain ⟨g1,o1,rfl⟩:=wC.addr oZ
 refine gl [22,23] (fun ((i,v4,_):Nat×Value×Chunk)=>[(24,.int .i64 i),(4,v4)]) (fun (_,_,D)=>[D]) (fun (i,v4,D)=>i<=k/\(∃qK c4,v4 = .slice qK i c4)/\aC D 146 11 v4 i ((l.take i).flatMap fv.lay)) (fun (i,_)=>k - i) (0,.slice none 0 0,[]) ⟨by omega,⟨none,0,rfl⟩,aC.nil _ _⟩ ?_
 rintro ⟨i,v4,D⟩ ⟨hi,⟨qK,c4,rfl⟩,hD⟩
 refine gi ?_ ?_ <;> intro br
 ·have bh:i<l.length:=oZ
  obtain ⟨v,ZJ,yr⟩:=Ur.rd (i:=i) (by simpa using bh)
  rw [getElem_map] at yr
  obtain ⟨s,Lo⟩:∃s,s=l[i]:=⟨_,rfl⟩
  rw [<-Lo,nZ] at yr
  have aO:=hp s (by rw [Lo];exact getElem_mem _)
  have bu:=aO.size
  have acd:=nZ s
  obtain ⟨kK,cv,rfl⟩:=yr.slice
  have e1:=fun p A h=>cw p (fx s) 0 1 A h oZ oZ
  rw [Us,nq (by split <;> omega)] at e1
  obtain ⟨un,zR⟩:∃un:Nat,un=(if s.used=true then 1 else 0):=⟨_,rfl⟩
  have hub:((un:Int)==1)=s.used:=by rw [zR];cases s.used <;> rfl
  have IM:un<=1:=by rw [zR];split <;> omega
  rw [<-zR] at e1
  clear zR
  have e2:=fun p A h=>Uw p (fx s) 1 4 A h oZ (Ut s)
  have e3:=fun p A h=>cw p (fx s) 4 4 A h oZ oZ
  rw [Uu,nq oZ] at e3
  have e4:=fun p A h=>qF p (fx s) 8 64 A h oZ
  rw [Uv] at e4
  have e5:=fun p A h=>uu p (fx s) 72 0 A h oZ
  rw [acd] at e5
  have e6:=fun b=>wA [(b,ax (au (dB s.root)) 5)] (some ⟨b,0,none⟩) 64 s.root aO.root aO.ok (ay (by rw [aq,bc]) (aP _) oZ _)
  have e7:=Xw s aO
  have e8:(l.take (i+1)).flatMap fv.lay=(l.take i).flatMap fv.lay++s.lay:=by rw [iB bh,<-Lo];simp
  have hwc:IntKind.i64.wrap (s.size:Int)=s.size:=IntWalk.i64_in _ oZ
  refine gc (sC (fx s) 72 acd oZ V0 _ yr) ?_
  rintro _ _ ⟨p,A,rfl,hA,rfl⟩
  refine gc (e1 p A hA) ?_
  rintro _ _ ⟨A1,rfl,mV,rfl⟩
  refine gc (e2 p A1 mV) ?_
  rintro _ _ ⟨A2,l4,rfl⟩
  refine gc (e3 p A2 l4) ?_
  rintro _ _ ⟨A3,rfl,wv,rfl⟩
  have e4:=e4 p A3 wv
  have e5:=fun A4 h=>e5 p A4 h
  clear aO Lo e1 e2 e3 hA mV l4
  refine ga ?_;intro b9
  rw [hub]
  refine gc e4 ?_
  rintro _ _ ⟨A4,b,rfl,x4,rfl⟩
  refine gc (e6 b) ?_
  rintro _ _ ⟨rfl,rfl⟩
  refine ga ?_;intro xX
  refine gc (e5 A4 x4) ?_
  rintro _ _ ⟨rfl,rfl⟩
  refine gc e7 ?_
  rintro _ _ ⟨rfl,rfl⟩
  refine gm ?_;intro b66
  refine gp ?_;intro sF c5 D5 hD5
  refine gn ?_
  exact ⟨(i+1,_,D5),⟨by omega,⟨sF,c5,rfl⟩,by rw [e8];exact hD5⟩,sOZ,ar,_,aa⟩
 ·obtain rfl:i=k:=oZ
  rw [take_of_length_le oZ] at hD
  refine gz ?_
  exact fin ⟨qK,c4,D,rfl,hD,rfl⟩ aa
theorem Xx (a b:Nat)(ha:1<=a/\a<=100000)(hb:1<=b)(Uz:b<=100000):Ct 241 [.int .i64 a,.int .i64 b] [] fun u Bs=>u = .int .i64 ((a - 1) / b+1:Nat)/\Bs=[]:=by
 have h1:(a - 1) / b<=a:=Nat.le_trans (Nat.div_le_self _ _) oZ
 refine st func241 fun w0 => ?_
 refine gz ?_
 exact fin ⟨rfl,rfl⟩ aa
theorem G9 (n:Nat)(hn:n<=100000):Ct 176 [.int .i64 n] [] fun u Bs=>u = .int .i64 (cost n)/\Bs=[]:=by
 refine st func176 fun w0 => ?_
 refine gi ?_ ?_ <;> intro h
 ·obtain rfl:n=0:=oZ
  refine gz ?_
  exact fin ⟨rfl,rfl⟩ aa
 ·have h1:(n - 1) / 1024<=100000:=Nat.le_trans (Nat.div_le_self _ _) oZ
  have h2:((n - 1) / 1024+1 - 1) / 16<=100000:=Nat.le_trans (Nat.div_le_self _ _) oZ
  refine gc (Xx n 1024 oZ oZ oZ) ?_
  rintro _ _ ⟨rfl,rfl⟩
  refine gc (Xx ((n - 1) / 1024+1) 16 oZ oZ oZ) ?_
  rintro _ _ ⟨rfl,rfl⟩
  refine gz ?_
  exact fin ⟨by unfold cost;rw [if_neg oZ],rfl⟩ aa
end Go.Proofs.YtpabnmeponmonaaGreatDoor
namespace Go.Sl
abbrev eE:=List UInt8
structure Dk where
 bP:List eE
 now:List eE
 dead:Bool
structure Wt where
 d:Nat
 at_:Nat
 b:eE
structure Rk where
 ds:List Dk
 ws:List Wt
 left:Option Nat
 off:Bool
inductive Ev where
 | w (d at_:Nat) (b:eE)
 | f (d:Nat)
def Rk.put (R:Rk)(d at_:Nat)(b:eE):Rk:={ R with ds:=R.ds.modify d fun x=>{ x with now:=x.now.set at_ b },ws:=R.ws++[⟨d,at_,b⟩] }
def Rk.ev (R:Rk):Ev->Rk
 | .w d a b=>if R.off then R else match R.left with
  | none=>R.put d a b
  | some 0=>{ R with off:=true,left:=none }
  | some (n+1)=>{ R.put d a b with left:=some n }
 | .f d=>if R.off then R else { R with ds:=R.ds.modify d fun x=>{ x with bP:=x.now },ws:=R.ws.filter fun w=>w.d != d }
def Rk.run (R:Rk)(l:List Ev):Rk:=l.foldl Rk.ev R
def Rk.size (R:Rk)(d:Nat):Nat:=((R.ds[d]?).map (·.now.length)).getD 0
def Rk.now (R:Rk)(d a:Nat):eE:=((R.ds[d]?).bind (·.now[a]?)).getD []
def Rk.pl (R:Rk)(d a:Nat):eE:=((R.ds[d]?).bind (·.bP[a]?)).getD []
def Rk.live (R:Rk)(d:Nat):Prop:=((R.ds[d]?).map (·.dead))=some false
structure Rk.Ok (R:Rk):Prop where
 len:∀x∈R.ds,x.bP.length=x.now.length/\x.now.length<=8192
 sec:∀x∈R.ds,(∀s∈x.bP,s.length=128)/\∀s∈x.now,s.length=128
 ws:∀w∈R.ws,w.at_<R.size w.d/\w.b.length=128
def Ev.ok (R:Rk):Ev->Prop
 | .w d a b=>a<R.size d/\b.length=128
 | .f _=>True
@[simp] theorem Rk.aef (R:Rk):R.run []=R:=rfl
theorem Rk.dC (R:Rk)(e:Ev)(l:List Ev):R.run (e :: l)=(R.ev e).run l:=rfl
theorem Rk.dD (R:Rk)(l m:List Ev):R.run (l++m)=(R.run l).run m:=foldl_append
theorem Rk.PC {R:Rk}(h:R.off=true)(e:Ev):R.ev e=R:=by cases e <;> simp [Rk.ev,h]
theorem Rk.iH {R:Rk}(h:R.off=true):∀(l:List Ev),R.run l=R
 | []=>rfl
 | e :: l=>by rw [Rk.dC,Rk.PC h,Rk.iH h l]
theorem Rk.UA {R:Rk}{l:List Ev}(h:(R.run l).off=false):R.off=false:=by
 cases hc:R.off with
 | false=>rfl
 | true=>rw [Rk.iH hc,hc] at h;cases h
theorem Rk.ace (R:Rk)(e:Ev):(R.ev e).ds.length=R.ds.length:=by
 cases e <;> simp only [Rk.ev]
 ·split
  ·rfl
  ·split <;> simp [Rk.put]
 ·split <;> simp
theorem Rk.ux (R:Rk)(e:Ev)(d:Nat):(R.ev e).size d=R.size d:=by
 have hp:∀d' a b,(R.put d' a b).size d=R.size d:=fun d' a b=>by
  simp only [Rk.size,Rk.put,getElem?_modify]
  cases hx:R.ds[d]? with
  | none=>simp
  | some x=>by_cases c:d'=d <;> simp [c]
 cases e with
 | w d' a b =>
  simp only [Rk.ev]
  split
  ·rfl
  ·split
   ·exact hp ..
   ·rfl
   ·exact hp ..
 | f d' =>
  simp only [Rk.ev]
  split
  ·rfl
  ·simp only [Rk.size,getElem?_modify]
   cases hx:R.ds[d]? with
   | none=>simp
   | some x=>by_cases c:d'=d <;> simp [c]
theorem Rk.bH (R:Rk)(l:List Ev)(d:Nat):(R.run l).size d=R.size d:=by
 induction l generalizing R with
 | nil=>rfl
 | cons e l ih=>rw [Rk.dC,ih,Rk.ux]
theorem Rk.AM (R:Rk)(l:List Ev):(R.run l).ds.length=R.ds.length:=by
 induction l generalizing R with
 | nil=>rfl
 | cons e l ih=>rw [Rk.dC,ih,Rk.ace]
theorem Rk.UB (R:Rk)(e:Ev)(d:Nat):(R.ev e).live d↔R.live d:=by
 have hm:∀(d':Nat) (g:Dk->Dk),(∀x,(g x).dead=x.dead)->(((R.ds.modify d' g)[d]?).map (·.dead))=(R.ds[d]?).map (·.dead):=fun d' g hg=>by
  rw [getElem?_modify]
  cases hx:R.ds[d]? with
  | none=>simp
  | some x=>by_cases c:d'=d <;> simp [c,hg]
 unfold Rk.live
 cases e with
 | w d' a b =>
  simp only [Rk.ev]
  split
  ·rfl
  ·split
   ·exact Iff.of_eq (congrArg (· = some false) (hm _ _ fun _=>rfl))
   ·rfl
   ·exact Iff.of_eq (congrArg (· = some false) (hm _ _ fun _=>rfl))
 | f d' =>
  simp only [Rk.ev]
  split
  ·rfl
  ·exact Iff.of_eq (congrArg (· = some false) (hm _ _ fun _=>rfl))
theorem Rk.di (R:Rk)(l:List Ev)(d:Nat):(R.run l).live d↔R.live d:=by
 induction l generalizing R with
 | nil=>rfl
 | cons e l ih=>rw [Rk.dC,ih,Rk.UB]
theorem mem_modify {α:Type}{l:List α}{i:Nat}{g:α->α}{y:α}(h:y∈l.modify i g):∃x∈l,y=x\/(l[i]? = some x/\y=g x):=by
 obtain ⟨j,hj⟩:=mem_iff_getElem?.1 h
 rw [getElem?_modify] at hj
 cases hx:l[j]? with
 | none=>rw [hx] at hj;simp at hj
 | some x =>
  rw [hx] at hj
  refine ⟨x,mem_of_getElem? hx, ?_⟩
  by_cases c:i=j
  ·subst c;simp at hj;exact .inr ⟨hx,hj.symm⟩
  ·simp [c] at hj;exact .inl hj.symm
theorem Rk.Ok.put {R:Rk}(h:R.Ok){d a:Nat}{b:eE}(ha:a<R.size d)(hb:b.length=128):(R.put d a b).Ok:=by
 refine ⟨fun y hy => ?_,fun y hy => ?_,fun w hw => ?_⟩
 ·obtain ⟨x,hx,rfl | ⟨-,rfl⟩⟩:=mem_modify hy
  ·exact h.len _ hx
  ·simpa using h.len _ hx
 ·obtain ⟨x,hx,rfl | ⟨-,rfl⟩⟩:=mem_modify hy
  ·exact h.sec _ hx
  ·refine ⟨(h.sec _ hx).1,fun s hs => ?_⟩
   rcases mem_or_eq_of_mem_set hs with hs | rfl
   ·exact (h.sec _ hx).2 s hs
   ·exact hb
 ·have hs:∀d',(R.put d a b).size d'=R.size d':=fun d'=>by
   simp only [Rk.size,Rk.put,getElem?_modify]
   cases hx:R.ds[d']? with
   | none=>simp
   | some x=>by_cases c:d=d' <;> simp [c]
  rw [hs]
  rcases List.mem_append.1 hw with hw | hw
  ·exact h.ws _ hw
  ·obtain rfl:=mem_singleton.1 hw;exact ⟨ha,hb⟩
theorem Rk.Ok.ev {R:Rk}(h:R.Ok){e:Ev}(he:e.ok R):(R.ev e).Ok:=by
 cases e with
 | w d a b =>
  have hp:=h.put he.1 he.2
  simp only [Rk.ev]
  split
  ·exact h
  ·split
   ·exact hp
   ·exact ⟨h.len,h.sec,h.ws⟩
   ·exact ⟨hp.len,hp.sec,hp.ws⟩
 | f d =>
  have bu:=Rk.ux R (.f d)
  simp only [Rk.ev] at bu ⊢
  split
  ·exact h
  ·rename_i hc
   rw [if_neg hc] at bu
   refine ⟨fun y hy => ?_,fun y hy => ?_,fun w hw => ?_⟩
   ·obtain ⟨x,hx,rfl | ⟨-,rfl⟩⟩:=mem_modify hy
    ·exact h.len _ hx
    ·exact ⟨rfl,(h.len _ hx).2⟩
   ·obtain ⟨x,hx,rfl | ⟨-,rfl⟩⟩:=mem_modify hy
    ·exact h.sec _ hx
    ·exact ⟨(h.sec _ hx).2,(h.sec _ hx).2⟩
   ·rw [bu];exact h.ws _ (mem_filter.1 hw).1
theorem Rk.acf (R:Rk)(e:Ev):(R.ev e).ws.length<=R.ws.length+1:=by
 cases e with
 | w d a b =>
  simp only [Rk.ev]
  split
  ·omega
  ·split <;> simp [Rk.put]
 | f d =>
  simp only [Rk.ev]
  split
  ·omega
  ·have:=length_filter_le (fun w:Wt=>w.d != d) R.ws;simp only;omega
theorem Rk.eS (R:Rk)(l:List Ev):(R.run l).ws.length<=R.ws.length+l.length:=by
 induction l generalizing R with
 | nil=>simp
 | cons e l ih=>have:=ih (R.ev e);have:=R.acf e;rw [Rk.dC,length_cons];omega
def gG (d a:Nat):List eE->List Ev
 | []=>[]
 | b :: l=>.w d a b :: gG d (a+1) l
theorem eT (d a:Nat)(l:List eE):(gG d a l).length=l.length:=by
 induction l generalizing a with
 | nil=>rfl
 | cons b l ih=>simp [gG,ih]
theorem wE (d a:Nat)(l m:List eE):gG d a (l++m)=gG d a l++gG d (a+l.length) m:=by
 induction l generalizing a with
 | nil=>simp [gG]
 | cons b l ih=>simp only [cons_append,gG,ih,length_cons];rw [show a+1+l.length=a+(l.length+1) by omega]
structure Dq where
 q:Nat
 g1:Nat
 g2:Nat
theorem fG:∀ {l:List eE},(∀s∈l,s.length=128)->l.flatten.length=l.length*128
 | [],_=>rfl
 | s :: l,h=>by
  have h1:=h s (mem_cons_self ..)
  have h2:=fG (l:=l) fun t ht=>h t (mem_cons_of_mem _ ht)
  rw [flatten_cons,length_append,h1,h2,length_cons];omega
theorem wF:∀ {l:List eE} (_:∀s∈l,s.length=128) (i:Nat),l.flatten.take (i*128)=(l.take i).flatten
 | [],_,i=>by simp
 | s :: l,h,0=>by simp
 | s :: l,h,i+1=>by
  have h1:=h s (mem_cons_self ..)
  have h2:=wF (l:=l) (fun t ht=>h t (mem_cons_of_mem _ ht)) i
  rw [flatten_cons,take_succ_cons,flatten_cons,take_append,h1,take_of_length_le oZ,show (i+1)*128 - 128=i*128 by omega,h2]
theorem qM:∀ {l:List eE} (_:∀s∈l,s.length=128) (i:Nat),l.flatten.drop (i*128)=(l.drop i).flatten
 | [],_,i=>by simp
 | s :: l,h,0=>by simp
 | s :: l,h,i+1=>by
  have h1:=h s (mem_cons_self ..)
  have h2:=qM (l:=l) (fun t ht=>h t (mem_cons_of_mem _ ht)) i
  rw [flatten_cons,drop_succ_cons,drop_append,h1,drop_of_length_le oZ,show (i+1)*128 - 128=i*128 by omega,h2,nil_append]
theorem Jo {l:List eE}(h:∀s∈l,s.length=128){i:Nat}(b:eE)(hi:i<l.length):l.flatten.take (i*128)++b++l.flatten.drop (i*128+128)=(l.set i b).flatten:=by
 rw [wF h,show i*128+128=(i+1)*128 by omega,qM h,set_eq_take_append_cons_drop,if_pos hi,flatten_append,flatten_cons,append_assoc]
theorem Ha {l ys:List Value}{n m:Nat}(hl:l.length=m)(h:m<=n):l.take 0++ys.take (min n m)++l.drop (0+min n m)=ys.take m:=by
 rw [Nat.min_eq_right h,take_zero,nil_append,Nat.zero_add,drop_of_length_le (l:=l) oZ,append_nil]
def Wt.lay (qs:List Nat)(w:Wt):List Value:=[ptr (qs.getD w.d 0),.int .i64 w.at_]++au w.b
abbrev wl (qs:List Nat)(ws:List Wt):List Value:=ws.flatMap (Wt.lay qs)
def oJ:Option Nat->Int
 | none => -1
 | some n=>n
def Rk.sK (R:Rk)(i a m:Nat):List UInt8:=((((R.ds[i]?).map (·.now)).getD []).drop a |>.take m).flatten
end Go.Sl
namespace Go.Proofs.YtpabnmeponmonaaGreatDoor
abbrev dkO (p g1 g2 n:Nat)(f:Bool):Obj:=ax [ptr p,.slice (some ⟨g1,0,none⟩) (n*128) (n*128),.slice (some ⟨g2,0,none⟩) (n*128) (n*128),.bool f] 88
abbrev Lp (vw:Value)(left:Option Nat)(off:Bool)(z:Int)(vd:Value):Obj:=ax [vw,.int .i64 (oJ left),.bool off,.int .i64 z,vd] 69
abbrev bO (b:List eE):Obj:=ax (au b.flatten) 5
abbrev PF (p q g1 g2:Nat)(d:Dk)(T:Chunk):Chunk:=[(q,dkO p g1 g2 d.now.length d.dead)]++([(g1,bO d.bP)]++([(g2,bO d.now)]++T))
def mW (p:Nat):List Dq->List Dk->Chunk
 | x :: xs,d :: ds=>PF p x.q x.g1 x.g2 d (mW p xs ds)
 | _,_=>[]
theorem qN (p:Nat):∀ {xs:List Dq} {ds:List Dk} (xs':List Dq) (ds':List Dk),xs.length=ds.length->mW p (xs++xs') (ds++ds')=mW p xs ds++mW p xs' ds'
 | [],[],_,_,_=>rfl
 | x :: xs,d :: ds,xs',ds',h=>by
  simp only [cons_append,mW,qN p (xs:=xs) (ds:=ds) xs' ds' (by simpa using h),append_assoc]
def bj (p:Nat)(qs:List Nat)(R:Rk)(C:Chunk):Prop:=∃(xs:List Dq) (vw vd:Value) (Cw Cd:Chunk) (z:Int),xs.map (·.q)=qs/\qs.Nodup/\xs.length=R.ds.length/\R.Ok/\(∀n,R.left=some n->n<9223372036854775808) /\
 aC Cw 85 130 vw R.ws.length (wl qs R.ws)/\aC Cd 56 1 vd qs.length (qs.map ptr)/\C=[(p,Lp vw R.left R.off z vd)]++(Cw++(Cd++mW p xs R.ds))
theorem bj.ok {p:Nat}{qs:List Nat}{R:Rk}{C:Chunk}(h:bj p qs R C):R.Ok:=by obtain ⟨xs,vw,vd,Cw,Cd,z, -, -, -,h, -⟩:=h;exact h
theorem bj.len {p:Nat}{qs:List Nat}{R:Rk}{C:Chunk}(h:bj p qs R C):qs.length=R.ds.length:=by obtain ⟨xs,vw,vd,Cw,Cd,z,h1, -,h3, -⟩:=h;rw [<-h1,length_map,h3]
structure Ej (p:Nat)(qs:List Nat)(i q:Nat)(R:Rk)(C:Chunk)(vw vd:Value)(Cw Cd A B:Chunk)(z:Int)(g1 g2:Nat)(qO sL:List Dk)(d:Dk):Prop where
 nd:qs.Nodup
 ds:R.ds=qO++d :: sL
 at_:qO.length=i
 ok:R.Ok
 lf:∀n,R.left=some n->n<9223372036854775808
 bw:aC Cw 85 130 vw R.ws.length (wl qs R.ws)
 eq:C=[(p,Lp vw R.left R.off z vd)]++(Cw++(Cd++(A++PF p q g1 g2 d B)))
 back:∀ {R':Rk} {vw':Value} {Cw':Chunk} {z':Int} {d':Dk},R'.ds=qO++d' :: sL->R'.Ok->(∀n,R'.left=some n->n<9223372036854775808)->aC Cw' 85 130 vw' R'.ws.length (wl qs R'.ws)->bj p qs R' ([(p,Lp vw' R'.left R'.off z' vd)]++(Cw'++(Cd++(A++PF p q g1 g2 d' B))))
theorem bj.open {p:Nat}{qs:List Nat}{R:Rk}{C:Chunk}{i q:Nat}(h:bj p qs R C)(hq:qs[i]? = some q):∃vw vd Cw Cd A B z g1 g2 qO sL d,Ej p qs i q R C vw vd Cw Cd A B z g1 g2 qO sL d:=by
 obtain ⟨xs,vw,vd,Cw,Cd,z,hx,hn,hl,aO,ZK,hw,hd,rfl⟩:=h
 subst hx
 rw [getElem?_map] at hq
 cases uw:xs[i]? with
 | none=>rw [uw] at hq;cases hq
 | some x =>
  rw [uw] at hq
  cases hq
  obtain ⟨hi,x6⟩:=List.getElem?_eq_some_iff.1 uw
  have jQ:i<R.ds.length:=oZ
  have Xq:xs=xs.take i++x :: xs.drop (i+1):=by rw [<-x6,<-drop_eq_getElem_cons,take_append_drop]
  have zf:R.ds=R.ds.take i++R.ds[i] :: R.ds.drop (i+1):=by rw [<-drop_eq_getElem_cons,take_append_drop]
  have hdk:∀d',mW p xs (R.ds.take i++d' :: R.ds.drop (i+1))=mW p (xs.take i) (R.ds.take i)++PF p x.q x.g1 x.g2 d' (mW p (xs.drop (i+1)) (R.ds.drop (i+1))):=fun d'=>by
   conv=>lhs;rw [Xq]
   rw [qN p _ _ (by simp;omega)];rfl
  refine ⟨vw,vd,Cw,Cd,_,_,z,x.g1,x.g2,R.ds.take i,R.ds.drop (i+1),R.ds[i],hn,zf,by simp;omega,aO,ZK,hw,by rw [<-hdk,<-zf],fun {R' vw' Cw' z' d'} h1 h2 h3 h4=>⟨xs,vw',vd,Cw',Cd,z',rfl,hn, ?_,h2,h3,h4,hd,by rw [h1,hdk]⟩⟩
  rw [hl,h1]
  simp;omega
section
variable {p:Nat}{qs:List Nat}{i q:Nat}{R:Rk}{C:Chunk}{vw vd:Value}{Cw Cd A B:Chunk}{z:Int}{g1 g2:Nat}{qO sL:List Dk}{d:Dk}
theorem Ej.ix (h:Ej p qs i q R C vw vd Cw Cd A B z g1 g2 qO sL d):R.ds[i]? = some d:=by rw [h.ds,getElem?_append_right (by rw [h.at_];omega),h.at_];simp
theorem Ej.size (h:Ej p qs i q R C vw vd Cw Cd A B z g1 g2 qO sL d):R.size i=d.now.length:=by simp [Rk.size,h.ix]
theorem Ej.mem (h:Ej p qs i q R C vw vd Cw Cd A B z g1 g2 qO sL d):d∈R.ds:=mem_of_getElem? h.ix
theorem Ej.live (h:Ej p qs i q R C vw vd Cw Cd A B z g1 g2 qO sL d)(hl:R.live i):d.dead=false:=by simpa [Rk.live,h.ix] using hl
theorem Ej.ZL (h:Ej p qs i q R C vw vd Cw Cd A B z g1 g2 qO sL d)(hl:R.live i):C=[(p,Lp vw R.left R.off z vd)]++(Cw++(Cd++(A++([(q,dkO p g1 g2 d.now.length false)]++([(g1,bO d.bP)]++([(g2,bO d.now)]++B)))))):=by rw [<-h.live hl];exact h.eq
theorem Ej.same (h:Ej p qs i q R C vw vd Cw Cd A B z g1 g2 qO sL d):bj p qs R ([(p,Lp vw R.left R.off z vd)]++(Cw++(Cd++(A++PF p q g1 g2 d B)))):=h.back h.ds h.ok h.lf h.bw
theorem Ej.rd (h:Ej p qs i q R C vw vd Cw Cd A B z g1 g2 qO sL d):d.now.length<=8192/\Rd [(g2,bO d.now)] 1 (.slice (some ⟨g2,0,none⟩) (d.now.length*128) (d.now.length*128)) (d.now.length*128) (au d.now.flatten)/\Rd [(g1,bO d.bP)] 1 (.slice (some ⟨g1,0,none⟩) (d.now.length*128) (d.now.length*128)) (d.now.length*128) (au d.bP.flatten):=by
 have h1:=h.ok.len d h.mem
 have h2:=h.ok.sec d h.mem
 have e1:=fG h2.1
 have e2:=fG h2.2
 exact ⟨h1.2,ay (by rw [aq,e2];omega) (aP _) oZ _,ay (by rw [aq,e1];omega) (aP _) oZ _⟩
theorem Ej.Xy (h:Ej p qs i q R C vw vd Cw Cd A B z g1 g2 qO sL d)(hl:R.live i):bj p qs R ([(p,Lp vw R.left R.off z vd)]++(Cw++(Cd++(A++([(q,dkO p g1 g2 d.now.length false)]++([(g1,bO d.bP)]++([(g2,bO d.now)]++B))))))):=by rw [<-h.ZL hl,h.eq];exact h.same
end
theorem da (p:Nat)(qs:List Nat)(R:Rk)(C:Chunk)(hC:bj p qs R C)(i q:Nat)(hq:qs[i]? = some q):Ct 39 [ptr q] [C] fun u Bs=>u = .int .i64 (R.size i)/\Bs=[C]:=by
 obtain ⟨vw,vd,Cw,Cd,A,B,z,g1,g2,qO,sL,d,hO⟩:=hC.open hq
 have h8:=hO.rd.1
 rw [hO.eq,hO.size]
 refine st func39 fun w0 => ?_
 refine gs ?_
 refine gz ?_
 exact fin ⟨congrArg _ oZ,rfl⟩ aa
theorem n0 (p:Nat)(qs:List Nat)(R:Rk)(C:Chunk)(hC:bj p qs R C)(i q at_ many:Nat)(hq:qs[i]? = some q)(hl:R.live i)(h:at_+many<=R.size i):Ct 142 [ptr q,.int .i64 at_,.int .i64 many] [C] fun u Bs =>
  (R.off=true/\u = .tuple #[.slice none 0 0,.int .i64 5]/\Bs=[C])\/(R.off=false/\∃g,u = .tuple #[.slice (some ⟨g,0,none⟩) (many*128) (many*128),.int .i64 0]/\Bs=[C,[(g,ax (au (R.sK i at_ many)) 5)]]):=by
 obtain ⟨vw,vd,Cw,Cd,A,B,z,g1,g2,qO,sL,d,hO⟩:=hC.open hq
 obtain ⟨h8,hR, -⟩:=hO.rd
 have hs:=hO.ok.sec d hO.mem
 have Xz:=hO.live hl
 rw [hO.size] at h
 have Lo:R.sK i at_ many=((d.now.drop at_).take many).flatten:=by simp [Rk.sK,hO.ix]
 have ju:=fG (l:=(d.now.drop at_).take many) fun s Nt=>hs.2 s (mem_of_mem_drop (mem_of_mem_take Nt))
 rw [length_take,length_drop,Nat.min_eq_left oZ] at ju
 rw [hO.ZL hl,Lo]
 obtain ⟨rds,rws,rl,off⟩:=R
 refine st func142 fun w0 => ?_
 refine gs ?_
 refine ge ?_
 cases off with
 | true =>
  refine gz ?_
  exact fin (.inl ⟨rfl,rfl,rfl⟩) aa
 | false =>
  refine ge ?_
  refine ge ?_
  refine ge ?_
  refine gm ?_;intro g
  have hn:d.now.length*128 - at_*128=(d.now.length - at_)*128:=oZ
  have qc:((au d.now.flatten).drop (at_*128*1)).take ((d.now.length*128 - at_*128)*1)=au (d.now.drop at_).flatten:=by
   have e2:=fG (l:=d.now.drop at_) fun s Nt=>hs.2 s (mem_of_mem_drop Nt)
   rw [length_drop] at e2
   rw [Nat.mul_one,Nat.mul_one,bo,qM hs.2,take_of_length_le (by rw [aq,e2];omega)]
  refine gw ?_;intro ad kY
  have Ek:(replicate (many*128) (Value.int .u8 0)).take 0++(au (d.now.drop at_).flatten).take (min ((d.now.length - at_)*128) (many*128))++(replicate (many*128) (Value.int .u8 0)).drop (0+min ((d.now.length - at_)*128) (many*128))=au ((d.now.drop at_).take many).flatten:=by
   rw [Ha (by simp) oZ,aQ,wF (fun s Nt=>hs.2 s (mem_of_mem_drop Nt))]
  refine gy ?_
  refine gz ?_
  exact fin (.inr ⟨rfl,g,rfl,rfl⟩) aa
end Go.Proofs.YtpabnmeponmonaaGreatDoor
namespace Go.Sl
theorem ZM {d a:Nat}{ss:List eE}{j:Nat}{s:eE}(h:ss[j]? = some s):gG d a (ss.take (j+1))=gG d a (ss.take j)++[.w d (a+j) s]/\gG d a ss=gG d a (ss.take (j+1))++gG d (a+(j+1)) (ss.drop (j+1)):=by
 obtain ⟨hj,rfl⟩:=List.getElem?_eq_some_iff.1 h
 constructor
 ·rw [take_succ_eq_append_getElem hj,wE,length_take,Nat.min_eq_left oZ];rfl
 ·conv=>lhs;rw [<-take_append_drop (j+1) ss]
  rw [wE,length_take,Nat.min_eq_left oZ]
theorem pK {α:Type}{A B:List α}{x:α}{g:α->α}{i:Nat}(h:A.length=i):(A++x :: B).modify i g=A++g x :: B:=by
 subst h
 induction A with
 | nil=>rfl
 | cons a A ih=>simp [ih]
theorem Wt.ak (qs:List Nat){w:Wt}(h:w.b.length=128):(w.lay qs).length=130:=by simp [Wt.lay,aq,h]
theorem Wt.bK (qs:List Nat)(w:Wt):∀u∈w.lay qs,u.oneCell'=true:=fun u hu=>by
 rcases List.mem_append.1 hu with h | h
 ·simp at h;rcases h with rfl | rfl <;> rfl
 ·exact aP _ u h
theorem Jp (qs:List Nat)(ws:List Wt)(w:Wt):wl qs ws++w.lay qs=wl qs (ws++[w]):=by simp [wl]
theorem acg (q a:Nat)(qs:List Nat){i:Nat}(hq:qs[i]? = some q){ys:List UInt8}{n:Nat}(hn:128<=n)(hy:n<=ys.length) :
  ([ptr q,.int .i64 a]++replicate 128 (.int .u8 0):List Value).take 2++(au ys).take (min n 128)++([ptr q,.int .i64 a]++replicate 128 (.int .u8 0):List Value).drop (2+min n 128)=Wt.lay qs ⟨i,a,ys.take 128⟩:=by
 have _:=hy
 rw [Nat.min_eq_right hn,show ([ptr q,.int .i64 a]++replicate 128 (.int .u8 0):List Value).take 2=[ptr q,.int .i64 a] from rfl,aQ,show ([ptr q,.int .i64 a]++replicate 128 (.int .u8 0):List Value).drop (2+128)=[] from rfl,append_nil,Wt.lay]
 simp [List.getD,hq]
end Go.Sl
namespace Go.Proofs.YtpabnmeponmonaaGreatDoor
theorem ln (p:Nat)(qs:List Nat)(R:Rk)(C:Chunk)(hC:bj p qs R C)(i q at_ m:Nat)(ss:List eE)(O:Chunk)(ad:Option Addr)(c:Nat)(hq:qs[i]? = some q)(hl:R.live i)(Jq:∀s∈ss,s.length=128)(hm:ss.length=m)(h:at_+m<=R.size i)
  (hO:Rd O 1 (.slice ad (m*128) c) (m*128) (au ss.flatten)) (hc:m*128<=c) (hw:R.ws.length+m<=900000000000):Ct 90 [ptr q,.int .i64 at_,.slice ad (m*128) c] [C,O] fun u Bs =>
  ∃C',u = .int .i64 (if (R.run (gG i at_ ss)).off then 5 else 0)/\bj p qs (R.run (gG i at_ ss)) C'/\Bs=[C',O]:=by
 subst hm
 have oG:=hC.ok
 cases ho:R.off with
 | true =>
  rw [Rk.iH ho]
  obtain ⟨vw,vd,Cw,Cd,A,B,z,g1,g2,qO,sL,d,hX⟩:=hC.open hq
  rw [hX.ZL hl,ho]
  have hb:=hX.Xy hl
  rw [ho] at hb
  refine st func90 fun w0 => ?_
  refine gs ?_
  refine ge ?_
  refine gz ?_
  exact fin ⟨_,rfl,hb,rfl⟩ aa
 | false =>
 obtain ⟨vw,vd,Cw,Cd,A,B,z,g1,g2,qO,sL,d,hX⟩:=hC.open hq
 obtain ⟨h8, -, -⟩:=hX.rd
 have Xz:=hX.live hl
 have zf:R.ds=qO++⟨d.bP,d.now,false⟩ :: sL:=by rw [hX.ds,<-Xz]
 rw [hX.size] at h
 rw [hX.ZL hl,ho]
 refine st func90 fun w0 => ?_
 refine gs ?_
 refine ge ?_
 refine ge ?_
 refine ge ?_
 refine ge ?_
 refine gl [0,1,2,29,31] (fun ((j,_):Nat×Rk×Value×Chunk×Int×List eE)=>[(32,.int .i64 j)]) (fun (_,R',vw,Cw,z,nw)=>[[(p,Lp vw R'.left false z vd)],Cw,[(g2,bO nw)]])
  (fun (j,R',vw,Cw,z,nw)=>j<=ss.length/\R.run (gG i at_ (ss.take j))=R'/\R'.off=false/\R'.ds=qO++⟨d.bP,nw,false⟩ :: sL/\nw.length=d.now.length/\R'.Ok/\(∀n,R'.left=some n->n<9223372036854775808)/\R'.ws.length<=R.ws.length+j/\aC Cw 85 130 vw R'.ws.length (wl qs R'.ws))
  (fun (j,_)=>ss.length - j) (0,R,vw,Cw,z,d.now) ⟨Nat.zero_le _,rfl,ho,zf,rfl,oG,hX.lf,by omega,hX.bw⟩ ?_
 rintro ⟨j,R',vw,Cw,z,nw⟩ ⟨hj,dQ,dS,PG,Nu,tU,ZN,Ji,hBw⟩
 have hd':d=⟨d.bP,d.now,false⟩:=by rw [<-Xz]
 refine gi ?_ ?_ <;> intro br
 ·have pC:j<ss.length:=oZ
  obtain ⟨s,hs⟩:=eC pC
  have fS:=Jq s (mem_of_getElem? hs)
  obtain ⟨Te,NV⟩:=ZM (d:=i) (a:=at_) hs
  have hev:R.run (gG i at_ (ss.take (j+1)))=R'.ev (.w i (at_+j) s):=by rw [Te,Rk.dD,dQ];rfl
  have bR:(R'.put i (at_+j) s).ds=qO++⟨d.bP,nw.set (at_+j) s,false⟩ :: sL:=by
   simp only [Rk.put,PG];rw [pK hX.at_]
  have sj:(⟨d.bP,nw,false⟩:Dk)∈R'.ds:=by rw [PG];simp
  have l8:∀t∈nw,t.length=128:=(tU.sec _ sj).2
  have bu:R'.size i=nw.length:=by
   simp only [Rk.size,PG];rw [getElem?_append_right (by rw [hX.at_];omega),hX.at_];simp
  have ZO:(R'.put i (at_+j) s).Ok:=tU.put (by rw [bu];omega) fS
  by_cases h0:R'.left=some 0
  ·have oK:R.run (gG i at_ ss)={ R' with off:=true,left:=none }:=by
    rw [NV,Rk.dD,hev,show R'.ev (.w i (at_+j) s)={ R' with off:=true,left:=none } by simp [Rk.ev,dS,h0],Rk.iH rfl]
   rw [h0]
   refine gz ?_
   rw [oK]
   exact fin ⟨_,rfl,hX.back (R':={ R' with off:=true,left:=none }) (vw':=vw) (Cw':=Cw) (z':=z) (d':=⟨d.bP,nw,false⟩) PG ⟨tU.len,tU.sec,tU.ws⟩ (fun n hn=>by cases hn) hBw,rfl⟩ (by rw [<-Nu];exact aa)
  ·obtain ⟨l',jI,yt,aeV⟩:∃l',(if 0<oJ R'.left then oJ R'.left - 1 else oJ R'.left)=oJ l'/\(∀n,l'=some n->n<9223372036854775808)/\R'.ev (.w i (at_+j) s)={ R'.put i (at_+j) s with left:=l' }:=by
    cases hle:R'.left with
    | none=>exact ⟨none,rfl,(fun n hn=>by cases hn),by simp [Rk.ev,dS,hle,Rk.put]⟩
    | some n =>
     cases n with
     | zero=>exact absurd hle h0
     | succ n=>exact ⟨some n,by simp only [oJ];omega,(fun k hk=>by cases hk;have:=ZN _ hle;omega),by simp [Rk.ev,dS,hle]⟩
   have Li:oJ R'.left≠0:=by
    cases hle:R'.left with
    | none=>decide
    | some n=>simp only [oJ];intro q0;exact h0 (by rw [hle];congr 1;omega)
   have Lq:oJ R'.left<9223372036854775808 /\ -1<=oJ R'.left:=by
    cases hle:R'.left with
    | none=>decide
    | some n=>have:=ZN n hle;simp only [oJ];omega
   have Cl:(ss.length*128 - j*128)=(ss.length - j)*128:=oZ
   have ny:=fG (l:=ss.drop j) fun t ht=>Jq t (mem_of_mem_drop ht)
   rw [length_drop] at ny
   have qc:((au ss.flatten).drop (j*128*1)).take ((ss.length*128 - j*128)*1)=au (ss.drop j).flatten:=by
    rw [Nat.mul_one,Nat.mul_one,bo,qM Jq,take_of_length_le (by rw [aq,ny];omega)]
   have Ek:=acg q (at_+j) qs hq (ys:=(ss.drop j).flatten) (n:=(ss.length - j)*128) oZ oZ
   have hsj:(ss.drop j).flatten.take 128=s:=by
    obtain ⟨_,rfl⟩:=List.getElem?_eq_some_iff.1 hs
    rw [drop_eq_getElem_cons pC,flatten_cons,take_left' fS]
   rw [hsj] at Ek
   have pL:=Wt.ak qs (w:=⟨i,at_+j,s⟩) fS
   have fJ:=Wt.bK qs ⟨i,at_+j,s⟩
   have eQ:=Jo l8 s (i:=at_+j) (show at_+j<nw.length by omega)
   have hrs:(R'.put i (at_+j) s).ws.length<=R.ws.length+(j+1):=by simp [Rk.put];omega
   have ju:=fG l8
   have hn8:(at_+j+1)*128 - (at_+j)*128=128:=oZ
   have ach:(au nw.flatten).take ((at_+j)*128)++(au s).take (min 128 128)++(au nw.flatten).drop ((at_+j)*128+min 128 128)=au (nw.set (at_+j) s).flatten:=by
    rw [Nat.min_self,aQ,bo,aQ,<-aG,<-aG,take_of_length_le (l:=s) oZ,eQ]
   have oK:∀(v3:Value) (C3:Chunk) (z':Int),aC C3 85 130 v3 (R'.ws.length+1) (wl qs (R'.ws++[(⟨i,at_+j,s⟩:Wt)]))->j+1<=ss.length/\R.run (gG i at_ (ss.take (j+1)))={ R'.put i (at_+j) s with left:=l' }/\({ R'.put i (at_+j) s with left:=l' }:Rk).off=false/\({ R'.put i (at_+j) s with left:=l' }:Rk).ds=qO++⟨d.bP,nw.set (at_+j) s,false⟩ :: sL/\(nw.set (at_+j) s).length=d.now.length/\({ R'.put i (at_+j) s with left:=l' }:Rk).Ok/\(∀n,l'=some n->n<9223372036854775808)/\(R'.ws++[(⟨i,at_+j,s⟩:Wt)]).length<=R.ws.length+(j+1)/\aC C3 85 130 v3 (R'.ws++[(⟨i,at_+j,s⟩:Wt)]).length (wl qs (R'.ws++[(⟨i,at_+j,s⟩:Wt)])):=fun v3 C3 z' hb =>
    ⟨by omega,by rw [hev,aeV],dS,bR,by rw [length_set];exact Nu,⟨ZO.len,ZO.sec,ZO.ws⟩,yt,hrs,by rw [length_append];exact hb⟩
   rcases Int.lt_or_le 0 (oJ R'.left) with Kx | Kx
   ·rw [if_pos Kx] at jI
    refine ga ?_;intro bw
    have hrp:Rd [(bw,ax (Wt.lay qs ⟨i,at_+j,s⟩) 85)] 1 (.slice (some ⟨bw,2,none⟩) 128 128) 128 (au s):=by
     have:=qu (g:=bw) (T:=85) (m:=128) [ptr (qs.getD i 0),.int .i64 (at_+j:Nat)] (au s) [] (by rw [aq,fS]) (aP s) oZ 128
     rwa [append_nil] at this
    refine gw ?_;intro ad2 kY
    refine gy ?_
    refine gd [2,4,8,12,16,20,25,31,34,38,43] ?_
    refine gm ?_;intro b5
    have XA:Rd [(b5,ax (Wt.lay qs ⟨i,at_+j,s⟩) 85)] 130 (.slice (some ⟨b5,0,none⟩) 1 1) 1 (Wt.lay qs ⟨i,at_+j,s⟩):=ay (by rw [pL]) fJ oZ _
    refine gp ?_;intro ia c3 C3 kP
    rw [Jp] at kP
    refine gd [0,4,8,12,16,20,24,28,36,40,33,47] ?_
    refine ge ?_
    refine gv ?_
    refine gy ?_
    refine gn ?_
    rw [jI]
    exact ⟨(j+1,{ R'.put i (at_+j) s with left:=l' },_,C3,_,nw.set (at_+j) s),oK _ C3 (IntKind.i64.wrap (z+1)) kP,sOZ,ar,_,aa⟩
   ·rw [if_neg oZ] at jI
    refine ga ?_;intro bw
    have hrp:Rd [(bw,ax (Wt.lay qs ⟨i,at_+j,s⟩) 85)] 1 (.slice (some ⟨bw,2,none⟩) 128 128) 128 (au s):=by
     have:=qu (g:=bw) (T:=85) (m:=128) [ptr (qs.getD i 0),.int .i64 (at_+j:Nat)] (au s) [] (by rw [aq,fS]) (aP s) oZ 128
     rwa [append_nil] at this
    refine gw ?_;intro ad2 kY
    refine gy ?_
    refine gd [2,4,8,12,16,20,25,31,34,38,43] ?_
    refine gm ?_;intro b5
    have XA:Rd [(b5,ax (Wt.lay qs ⟨i,at_+j,s⟩) 85)] 130 (.slice (some ⟨b5,0,none⟩) 1 1) 1 (Wt.lay qs ⟨i,at_+j,s⟩):=ay (by rw [pL]) fJ oZ _
    refine gp ?_;intro ia c3 C3 kP
    rw [Jp] at kP
    refine gd [0,4,8,12,16,20,24,28,36,40,33,47] ?_
    refine ge ?_
    refine gv ?_
    refine gy ?_
    refine gn ?_
    rw [jI]
    exact ⟨(j+1,{ R'.put i (at_+j) s with left:=l' },_,C3,_,nw.set (at_+j) s),oK _ C3 (IntKind.i64.wrap (z+1)) kP,sOZ,ar,_,aa⟩
 ·obtain rfl:j=ss.length:=oZ
  rw [take_length] at dQ
  refine gz ?_
  rw [dQ,dS]
  exact fin ⟨_,rfl,by have:=hX.back (R':=R') (vw':=vw) (Cw':=Cw) (z':=z) (d':=⟨d.bP,nw,false⟩) PG tU ZN hBw;rw [dS] at this;exact this,rfl⟩ (by rw [<-Nu];exact aa)
end Go.Proofs.YtpabnmeponmonaaGreatDoor
namespace Go.Sl
def out (i:Nat)(ws:List Wt):List Wt:=ws.filter fun w=>w.d != i
theorem El {i:Nat}{ws:List Wt}{j:Nat}{w:Wt}(h:ws[j]? = some w):out i (ws.take (j+1))=out i (ws.take j)++(if w.d=i then [] else [w]):=by
 obtain ⟨hj,rfl⟩:=List.getElem?_eq_some_iff.1 h
 rw [take_succ_eq_append_getElem hj,out,out,filter_append]
 by_cases c:ws[j].d=i <;> simp [c]
theorem Hb (i:Nat)(ws:List Wt)(j:Nat):(out i (ws.take j)).length<=j:=Nat.le_trans (length_filter_le ..) (by simp;omega)
theorem AN (qs:List Nat):∀ {ws:List Wt},(∀w∈ws,w.b.length=128)->(wl qs ws).length=ws.length*130
 | [],_=>rfl
 | w :: ws,h=>by
  have h1:=Wt.ak qs (h w (mem_cons_self ..))
  have h2:=AN qs (ws:=ws) fun t ht=>h t (mem_cons_of_mem _ ht)
  rw [wl,flatMap_cons,length_append,h1,length_cons]
  rw [wl] at h2;omega
theorem PH (qs:List Nat){ws:List Wt}(h:∀w∈ws,w.b.length=128){j:Nat}{w:Wt}(hj:ws[j]? = some w):Sub (j*130) (w.lay qs) (wl qs ws):=by
 induction ws generalizing j with
 | nil=>cases hj
 | cons x l ih =>
  have hx:=Wt.ak qs (h x (mem_cons_self ..))
  intro k u hu
  cases j with
  | zero =>
   cases hj
   rw [Nat.zero_mul,Nat.zero_add,wl,flatMap_cons,getElem?_append_left (List.getElem?_eq_some_iff.1 hu).1];exact hu
  | succ j =>
   rw [wl,flatMap_cons,getElem?_append_right (by rw [hx];omega),hx,show (j+1)*130+k - 130=j*130+k by omega]
   exact ih (fun t ht=>h t (mem_cons_of_mem _ ht)) hj k u hu
structure Dr (qs:List Nat)(i:Nat)(ws:List Wt)(l0 l:List Value)(j:Nat):Prop where
 len:l.length=l0.length
 hd:l.take ((out i (ws.take j)).length*130)=wl qs (out i (ws.take j))
 tl:l.drop (j*130)=l0.drop (j*130)
theorem Dr.sub {qs:List Nat}{i:Nat}{ws:List Wt}{r l:List Value}{j:Nat}{w:Wt}(h:Dr qs i ws (wl qs ws++r) l j)(hb:∀w∈ws,w.b.length=128)(hj:ws[j]? = some w):Sub (j*130) (w.lay qs) l:=fun k u hu=>by
 have h1:=PH qs hb hj k u hu
 have h2:(l.drop (j*130))[k]? = ((wl qs ws++r).drop (j*130))[k]?:=by rw [h.tl]
 rw [getElem?_drop,getElem?_drop,getElem?_append_left (List.getElem?_eq_some_iff.1 h1).1,h1] at h2
 exact h2
theorem Dr.put {qs:List Nat}{i:Nat}{ws:List Wt}{l0 l:List Value}{j:Nat}{w:Wt}(h:Dr qs i ws l0 l j)(hw:w.b.length=128)(hj:ws[j]? = some w)(ey:w.d≠i)(hl:(j+1)*130<=l.length) :
  (out i (ws.take (j+1))).length=(out i (ws.take j)).length+1/\Dr qs i ws l0 (l.take ((out i (ws.take j)).length*130)++w.lay qs++l.drop (((out i (ws.take j)).length+1)*130)) (j+1):=by
 have h1:=El (i:=i) hj
 rw [if_neg ey] at h1
 have hk:=Hb i ws j
 have h2:=Wt.ak qs hw
 have h3:(out i (ws.take (j+1))).length=(out i (ws.take j)).length+1:=by rw [h1];simp
 have ht:(l.take ((out i (ws.take j)).length*130)++w.lay qs).length=((out i (ws.take j)).length+1)*130:=by rw [length_append,length_take,h2];omega
 refine ⟨h3, ?_, ?_, ?_⟩
 ·rw [length_append,ht,length_drop,<-h.len];omega
 ·rw [h3,take_left' ht,h.hd,h1,wl,wl,flatMap_append];simp
 ·rw [drop_append,ht,drop_of_length_le (by rw [ht];omega),nil_append,drop_drop,show ((out i (ws.take j)).length+1)*130+((j+1)*130 - ((out i (ws.take j)).length+1)*130)=j*130+130 by omega,<-drop_drop,h.tl,drop_drop]
  congr 1;omega
theorem Dr.skip {qs:List Nat}{i:Nat}{ws:List Wt}{l0 l:List Value}{j:Nat}{w:Wt}(h:Dr qs i ws l0 l j)(hj:ws[j]? = some w)(he:w.d=i):(out i (ws.take (j+1))).length=(out i (ws.take j)).length/\Dr qs i ws l0 l (j+1):=by
 have h1:=El (i:=i) hj
 rw [if_pos he,append_nil] at h1
 refine ⟨by rw [h1],h.len,by rw [h1];exact h.hd, ?_⟩
 rw [show (j+1)*130=j*130+130 by omega,<-drop_drop,h.tl,drop_drop]
end Go.Sl
namespace Go.Proofs.YtpabnmeponmonaaGreatDoor
theorem uy (p:Nat):∀ {xs:List Dq} {ds:List Dk} {x:Dq},xs.length=ds.length->x∈xs->KP (mW p xs ds) x.q
 | y :: xs,d :: ds,x,h,hx=>by
  rcases List.mem_cons.1 hx with rfl | hx
  ·exact ⟨_,_,mem_cons_self ..⟩
  ·obtain ⟨l,T,hm⟩:=uy p (xs:=xs) (ds:=ds) (by simpa using h) hx
   exact ⟨l,T,by simp only [mW,PF];simp [hm]⟩
theorem UC (p:Nat)(qs:List Nat)(R:Rk)(C:Chunk)(hC:bj p qs R C)(i q:Nat)(hq:qs[i]? = some q):Ct 157 [ptr p,ptr q] [C] fun _ Bs=>∃C',bj p qs { R with ws:=out i R.ws } C'/\Bs=[C']:=by
 obtain ⟨xs,vw,vd,Cw,Cd,z,hx,hn,hl,aO,ZK,hw,hd,rfl⟩:=hC
 obtain ⟨D,hD⟩:∃D,D=mW p xs R.ds:=⟨_,rfl⟩
 have hpb:∀a b qa qb,qs[a]? = some qa->qs[b]? = some qb->PB D qa qb:=fun a b qa qb ha hb=>by
  refine .inr ⟨?_, ?_⟩
  ·have:=mem_of_getElem? ha;rw [<-hx] at this;obtain ⟨x,x8,rfl⟩:=mem_map.1 this;rw [hD];exact uy p hl x8
  ·have:=mem_of_getElem? hb;rw [<-hx] at this;obtain ⟨x,x8,rfl⟩:=mem_map.1 this;rw [hD];exact uy p hl x8
 have aeW:({ R with ws:=out i R.ws }:Rk).Ok:=⟨aO.len,aO.sec,fun w hw=>aO.ws w (mem_filter.1 hw).1⟩
 have back:∀ {vw' Cw'},aC Cw' 85 130 vw' (out i R.ws).length (wl qs (out i R.ws))->bj p qs { R with ws:=out i R.ws } ([(p,Lp vw' R.left R.off z vd)]++(Cw'++(Cd++D))):=fun {vw' Cw'} hb=>⟨xs,vw',vd,Cw',Cd,z,hx,hn,hl,aeW,ZK,hb,hd,by rw [hD]⟩
 rw [<-hD]
 rcases hw.2.2 with ⟨rfl,h0,rfl⟩ | ⟨g,c,r,rfl,rfl,hc,ng,hlen⟩
 ·have sM:=eq_nil_of_length_eq_zero h0
  rw [h0] at *
  refine st func157 fun w0 => ?_
  refine gs ?_
  refine gl [0,1,4,14,16] (fun i:Nat=>[(17,.int .i64 i)]) (fun _=>[]) (fun i=>i<=0) (fun _=>0) 0 (Nat.le_refl _) ?_
  intro j hj
  refine gz ?_
  exact fin ⟨_,back (vw':=.slice none 0 0) (Cw':=[]) (by rw [sM];exact aC.nil _ _),rfl⟩ aa
 ·have PI:∀w∈R.ws,w.b.length=128:=fun w hw=>(aO.ws w hw).2
  have agN:=AN qs PI
  simp only [maxLen] at ng
  refine st func157 fun w0 => ?_
  refine gs ?_
  refine gv ?_
  refine gl [0,1,15,16] (fun ((j,_):Nat×List Value)=>[(17,.int .i64 j),(4,.slice (some ⟨g,0,none⟩) (out i (R.ws.take j)).length c)]) (fun (_,l)=>[[(g,ax l 85)]]) (fun (j,l)=>j<=R.ws.length/\Dr qs i R.ws (wl qs R.ws++r) l j) (fun (j,_)=>R.ws.length - j) (0,wl qs R.ws++r) ⟨Nat.zero_le _,rfl,by simp [out],rfl⟩ ?_
  rintro ⟨j,l⟩ ⟨hj,jW⟩
  have gH:l.length=c*130:=by rw [jW.len,<-hlen];simp
  have hkj:=Hb i R.ws j
  refine gi ?_ ?_ <;> intro br
  ·obtain ⟨w,PJ⟩:=eC (show j<R.ws.length by omega)
   have Nv:=mem_of_getElem? PJ
   have jv:=jW.sub PI PJ
   have pL:=Wt.ak qs (PI w Nv)
   have fJ:=Wt.bK qs w
   have kA:w.d<qs.length:=by
    have h1:=(aO.ws w Nv).1
    rcases Nat.lt_or_ge w.d R.ds.length with h2 | h2
    ·rw [<-hx,length_map,hl];exact h2
    ·simp [Rk.size,h2] at h1
   have hqw:qs[w.d]? = some (qs.getD w.d 0):=by simp [List.getD,kA]
   have hP:=hpb w.d i _ q hqw hq
   refine ga ?_;intro b6
   refine gi ?_ ?_ <;> intro ey
   ·have aci:w.d≠i:=fun e=>by
     have h1:qs.getD w.d 0=q:=by simp [List.getD,e,hq]
     simp only [h1] at ey;simp at ey
    obtain ⟨h3,eJ⟩:=jW.put (PI w Nv) PJ aci oZ
    refine gm ?_;intro b7
    have XA:Rd [(b7,ax (w.lay qs) 85)] 130 (.slice (some ⟨b7,0,none⟩) 1 1) 1 (w.lay qs):=ay (by rw [pL]) fJ oZ _
    refine gpi ?_
    refine gn ?_
    exact ⟨(j+1,_),⟨by omega,eJ⟩,sOZ,by simp only [h3];exact ar,_,aa⟩
   ·have he:w.d=i:=by
     have h1:qs.getD w.d 0=q:=by simpa using ey
     have h2:qs[w.d]? = qs[i]?:=by rw [hqw,hq,h1]
     exact (getElem?_inj kA hn).1 h2
    obtain ⟨h3,eJ⟩:=jW.skip PJ he
    refine gn ?_
    exact ⟨(j+1,l),⟨by omega,eJ⟩,sOZ,by simp only [h3];exact ar,_,aa⟩
  ·obtain rfl:j=R.ws.length:=oZ
   rw [take_length] at *
   have hh:=jW.hd
   rw [take_length] at hh
   have hO:=Hb i R.ws R.ws.length
   rw [take_length] at hO
   refine gz ?_
   refine fin ⟨_,back (vw':=.slice (some ⟨g,0,none⟩) (out i R.ws).length c) (Cw':=[(g,ax l 85)]) ⟨AN qs fun w hw=>PI w (mem_filter.1 hw).1,fun u hu => ?_,.inr ⟨g,c,l.drop ((out i R.ws).length*130),rfl,by rw [<-hh,take_append_drop],by omega,by simp only [maxLen];omega, ?_⟩⟩,rfl⟩ aa
   ·obtain ⟨w,hw,hu⟩:=mem_flatMap.1 hu;exact Wt.bK qs w u hu
   ·rw [AN qs (ws:=out i R.ws) fun w hw=>PI w (mem_filter.1 hw).1,length_drop,gH];omega
theorem Em (p:Nat)(qs:List Nat)(R:Rk)(C:Chunk)(hC:bj p qs R C)(i q:Nat)(hq:qs[i]? = some q)(hl:R.live i):Ct 94 [ptr q] [C] fun u Bs=>∃C',u = .int .i64 (if (R.ev (.f i)).off then 5 else 0)/\bj p qs (R.ev (.f i)) C'/\Bs=[C']:=by
 obtain ⟨vw,vd,Cw,Cd,A,B,z,g1,g2,qO,sL,d,hO⟩:=hC.open hq
 obtain ⟨h8,hR, -⟩:=hO.rd
 have hs:=hO.ok.sec d hO.mem
 have yt:=hO.ok.len d hO.mem
 have e1:=fG hs.1
 have e2:=fG hs.2
 have Xz:=hO.live hl
 have hb:=hO.Xy hl
 cases ho:R.off with
 | true =>
  rw [Rk.PC ho,hO.ZL hl,ho]
  rw [ho] at hb
  refine st func94 fun w0 => ?_
  refine gs ?_
  refine ge ?_
  refine gz ?_
  exact fin ⟨_,by rw [if_pos rfl],hb,rfl⟩ aa
 | false =>
  have tU:(R.ev (.f i)).Ok:=hO.ok.ev (e:=.f i) trivial
  have hev:R.ev (.f i)={ ({ R with ds:=qO++⟨d.now,d.now,false⟩ :: sL }:Rk) with ws:=out i R.ws }:=by simp only [Rk.ev,ho,hO.ds];rw [pK hO.at_];simp [out,Xz]
  have aeX:({ R with ds:=qO++⟨d.now,d.now,false⟩ :: sL }:Rk).Ok:=by
   rw [hev] at tU
   refine ⟨tU.len,tU.sec,fun w hw => ?_⟩
   have h1:=hO.ok.ws w hw
   have h2:=Rk.ux R (.f i) w.d
   rw [hev] at h2
   exact ⟨by have:({ R with ds:=qO++⟨d.now,d.now,false⟩ :: sL }:Rk).size w.d=R.size w.d:=h2;omega,h1.2⟩
  have Hc:=hO.back (R':={ R with ds:=qO++⟨d.now,d.now,false⟩ :: sL }) (z':=z) (d':=⟨d.now,d.now,false⟩) rfl aeX hO.lf hO.bw
  rw [hev,hO.ZL hl]
  simp only [ho]
  simp only [ho] at Hc
  have Ek:(au d.bP.flatten).take 0++(au d.now.flatten).take (min (d.now.length*128) (d.now.length*128))++(au d.bP.flatten).drop (0+min (d.now.length*128) (d.now.length*128))=au d.now.flatten:=by
   rw [Ha (by rw [aq,e1,yt.1]) (Nat.le_refl _),take_of_length_le (by rw [aq,e2];omega)]
  refine st func94 fun w0 => ?_
  refine gs ?_
  refine ge ?_
  refine gy ?_
  refine gc (UC p qs _ _ Hc i q hq) ?_
  rintro _ _ ⟨C',bF,rfl⟩
  refine gz ?_
  exact fin ⟨_,rfl,bF,rfl⟩ aa
end Go.Proofs.YtpabnmeponmonaaGreatDoor
namespace Go.Sl
def upto (f:Nat->List Ev):Nat->List Ev
 | 0=>[]
 | k+1=>upto f k++f k
theorem ea (R:Rk)(f:Nat->List Ev)(k:Nat):R.run (upto f (k+1))=(R.run (upto f k)).run (f k):=Rk.dD ..
theorem jX {R:Rk}{f:Nat->List Ev}{k m:Nat}(h:(R.run (upto f k)).off=true)(hm:k<=m):R.run (upto f m)=R.run (upto f k):=by
 induction m with
 | zero =>
  obtain rfl:k=0:=oZ
  rfl
 | succ m ih =>
  rcases Nat.lt_or_ge m k with c | c
  ·obtain rfl:k=m+1:=oZ
   rfl
  ·rw [ea,ih c,Rk.iH h]
theorem bY {f:Nat->List Ev}{c:Nat}(h:∀k,(f k).length<=c)(m:Nat):(upto f m).length<=m*c:=by
 induction m with
 | zero=>simp [upto]
 | succ m ih=>have:=h m;rw [upto,length_append,Nat.succ_mul];omega
def ez (n:Nat):Nat->Nat
 | 0=>0
 | 1=>9
 | 2=>n - 18
 | _=>n - 9
theorem AO {n k:Nat}(h:324<=n):ez n k+9<=n:=by
 unfold ez;split <;> omega
theorem AP (n:Nat){k:Nat}(h:k<4):([.int .i64 0,.int .i64 9,.int .i64 ((n - 18:Nat):Int),.int .i64 ((n - 9:Nat):Int)]:List Value)[k]? = some (.int .i64 (ez n k)):=by
 rcases (show k=0\/k=1\/k=2\/k=3 by omega) with rfl | rfl | rfl | rfl <;> rfl
def ji (n i:Nat)(u:Ub)(k:Nat):List Ev:=gG i (ez n k+1+u.ae % 8) [whole (jJ u)]
def cd (no:Nat)(b:List UInt8):List UInt8:=ah no 8++b
def jw (no:Nat)(b:List UInt8):eE:=K4 (aH (cd no b))++cd no b
theorem En {no:Nat}{b:List UInt8}(h:b.length=88):(cd no b).length=96:=by simp [cd,aj,h]
theorem PK {no:Nat}{b:List UInt8}(h:b.length=88):(jw no b).length=128:=by simp [jw,lY,En h]
def fN (s:eE):Nat:=nm s 32 8
def ig (s:eE):Bool:=decide (nr s 0=aH (s.drop 32))&&decide (1<=fN s/\fN s<=281474976710656)
def Lr (s:eE):List UInt8:=(s.drop 40).take 88
theorem AQ {s:eE}(h:s.length=128):(Lr s).length=88:=by simp [Lr,h]
theorem lq {R:Rk}(hR:R.Ok){i a:Nat}(h:a<R.size i):R.sK i a 1=R.now i a/\(R.now i a).length=128:=by
 unfold Rk.sK Rk.now Rk.size at *
 cases hd:R.ds[i]? with
 | none=>rw [hd] at h;simp at h
 | some d =>
  rw [hd] at h
  simp only [Option.map_some,Option.getD_some] at h
  have h2:=(hR.sec d (mem_of_getElem? hd)).2
  have ha:d.now[a]? = some d.now[a]:=getElem?_eq_getElem h
  simp only [Option.map_some,Option.getD_some,Option.bind_some,ha]
  exact ⟨by rw [drop_eq_getElem_cons h,take_succ_cons,take_zero,flatten_cons,flatten_nil,append_nil],h2 _ (getElem_mem h)⟩
end Go.Sl
namespace Go.Proofs.YtpabnmeponmonaaGreatDoor
abbrev XB (q:Nat)(l:fj)(v:Value)(z1 z2 z3:Int):Obj:=ax [ptr q,.int .u64 l.pool,v,.int .i64 l.top,.int .i64 l.place,.int .i64 z1,.int .i64 z2,.int .i64 z3] 184
def PL (a q:Nat)(l:fj)(L:Chunk):Prop:=∃ad c D z1 z2 z3,aC D 23 3 (.slice ad l.aN.length c) l.aN.length (l.aN.flatMap Tp.lay)/\L=[(a,XB q l (.slice ad l.aN.length c) z1 z2 z3)]++D
theorem qQ (p:Nat)(qs:List Nat)(R:Rk)(C:Chunk)(hC:bj p qs R C)(i q n:Nat)(hq:qs[i]? = some q)(hn:R.size i=n)(h:324<=n/\n<=8192):Ct 92 [ptr q] [C] fun u Bs=>u = .agg #[.int .i64 0,.int .i64 9,.int .i64 ((n - 18:Nat):Int),.int .i64 ((n - 9:Nat):Int)]/\Bs=[C]:=by
 subst hn
 refine st func92 fun w0 => ?_
 refine ga ?_;intro b2
 refine gc (da p qs R C hC i q hq) ?_
 rintro _ _ ⟨rfl,rfl⟩
 refine gz ?_
 exact fin ⟨rfl,rfl⟩ aa
theorem ZP (T:TypeId)(fr:Nat×Nat)(p:Nat)(qs:List Nat)(R:Rk)(C:Chunk)(hC:bj p qs R C)(i q n a:Nat)(l:fj)(L:Chunk)(hL:PL a q l L)(hq:qs[i]? = some q)(hl:R.live i)(hn:R.size i=n)(h:324<=n/\n<=8192)
  (x:Ub) (hx:wq x=0) (ho:x.Ok) (hp:x.pool=l.pool) (hw:R.ws.length+4<=900000000000):Ct 174 [ptr a,x.agg] [gK T fr,C,L] fun u Bs =>
  ∃C',u = .int .i64 (if (R.run (upto (ji n i x) 4)).off then 5 else 0)/\bj p qs (R.run (upto (ji n i x) 4)) C'/\Bs=[gK T fr,C',L]:=by
 obtain ⟨ad,c,D,z1,z2,z3,hD,rfl⟩:=hL
 have fS:(whole (jJ x)).length=128:=gE (by rw [jU];omega)
 refine st func174 fun w0 => ?_
 refine gs ?_
 refine ga ?_;intro b3
 refine gc (G6 T fr x hx ho) ?_
 rintro _ _ ⟨g,rfl,rfl⟩
 have hg:Rd [(g,ax (au (whole (jJ x))) 5)] 1 (.slice (some ⟨g,0,none⟩) 128 128) 128 (au (whole (jJ x))):=ay (by rw [aq,fS]) (aP _) oZ _
 refine gc (qQ p qs R C hC i q n hq hn h) ?_
 rintro _ _ ⟨rfl,rfl⟩
 refine gl [0,3,5,30] (fun ((k,_):Nat×Chunk)=>[(31,.int .i64 k)]) (fun (_,C)=>[C]) (fun (k,C)=>k<=4/\bj p qs (R.run (upto (ji n i x) k)) C/\(0<k->(R.run (upto (ji n i x) k)).off=false)) (fun (k,_)=>4 - k) (0,C) ⟨by omega,hC,fun h0=>absurd h0 oZ⟩ ?_
 rintro ⟨k,C⟩ ⟨hk,hC,jx⟩
 refine gi ?_ ?_ <;> intro br
 ·have Nr:k<4:=oZ
  have Gc:=AP n Nr
  have mU:=AO (k:=k) h.1
  have sM:=Rk.eS R (upto (ji n i x) k)
  have Ao:=bY (f:=ji n i x) (c:=1) (fun k=>by simp [ji,gG]) k
  have mX:=ln p qs _ C hC i q (ez n k+1+x.ae % 8) 1 [whole (jJ x)] [(g,ax (au (whole (jJ x))) 5)] (some ⟨g,0,none⟩) 128 hq ((Rk.di _ _ _).2 hl) (by simp [fS]) rfl (by rw [Rk.bH,hn];omega) (by simpa using hg) oZ oZ
  rw [show (R.run (upto (ji n i x) k)).run (gG i (ez n k+1+x.ae % 8) [whole (jJ x)])=R.run (upto (ji n i x) (k+1)) from (ea ..).symm] at mX
  refine gd [0,4,8,12,16,20,24,32,29,39,42] ?_
  refine ge ?_
  refine gc mX ?_
  rintro _ _ ⟨C',rfl,bF,rfl⟩
  cases dS:(R.run (upto (ji n i x) (k+1))).off with
  | true =>
   refine ge ?_
   refine gz ?_
   rw [jX dS (by omega:k+1<=4),dS]
   exact fin ⟨C',rfl,bF,rfl⟩ aa
  | false =>
   refine gn ?_
   exact ⟨(k+1,C'),⟨by omega,bF,fun _=>dS⟩,sOZ,ar,_,aa⟩
 ·obtain rfl:k=4:=oZ
  refine gz ?_
  rw [jx oZ]
  exact fin ⟨C,rfl,hC,rfl⟩ aa
end Go.Proofs.YtpabnmeponmonaaGreatDoor
namespace Go.Sl
theorem Hd (no:Nat)(b:List UInt8):jw no b=four [(aH (cd no b)).a,(aH (cd no b)).b,(aH (cd no b)).c,(aH (cd no b)).d]++cd no b:=by rw [Jm];rfl
end Go.Sl
namespace Go.Proofs.YtpabnmeponmonaaGreatDoor
section
variable (T:TypeId)(fr:Nat×Nat)(p:Nat)(qs:List Nat)(R:Rk)(C:Chunk)(hC:bj p qs R C)(i q n a:Nat)(l:fj)(L:Chunk)(hL:PL a q l L)(hq:qs[i]? = some q)(hl:R.live i)(hn:R.size i=n)(h:324<=n/\n<=8192)
include hC hL hq hl hn h
theorem PN (at_ no:Nat)(b:List UInt8)(O:Chunk)(v:Value)(ha:at_<256)(gf:1<=no/\no<=281474976710656)(hb:b.length=88)(hO:Rd O 1 v 88 (au b))(hw:R.ws.length+1<=900000000000):Ct 183 [ptr a,.int .i64 at_,.int .u64 no,v] [gK T fr,C,L,O] fun u Bs =>
  ∃C',u = .int .i64 (if (R.run (gG i (18+at_) [jw no b])).off then 5 else 0)/\bj p qs (R.run (gG i (18+at_) [jw no b])) C'/\Bs=[gK T fr,C',L,O]:=by
 obtain ⟨ad,c,D,z1,z2,z3,hD,rfl⟩:=hL
 obtain ⟨iY,c1,rfl⟩:=hO.slice
 have dP:=En (no:=no) hb
 have fS:=PK (no:=no) hb
 have aO:=nY (cd no b)
 have hK:=fun g=>AD T fr [(g,ax (au (cd no b)) 5)] (.slice (some ⟨g,0,none⟩) 96 96) (cd no b) 96 dP (ay (by rw [aq,dP]) (aP _) oZ _) oZ 1
 rw [show jt 1 (cd no b)=(aH (cd no b),0) from rfl] at hK
 simp only at hK
 refine st func183 fun w0 => ?_
 refine gs ?_
 refine gc (wc 128 oZ) ?_
 rintro _ _ ⟨p1,A,rfl,hA,rfl⟩
 refine gc (fT p1 128 [] A no 8 hA oZ oZ (by simp)) ?_
 rintro _ _ ⟨A1,mV,rfl⟩
 refine gc (nX p1 128 _ b A1 O _ mV (by rw [hb];exact hO) (by simp [aj];omega)) ?_
 rintro _ _ ⟨A2,l4,rfl⟩
 rw [nil_append] at l4
 change xY p1 128 (cd no b) A2 at l4
 have hd:=pG p1 128 _ A2 l4 oZ
 rw [dP] at hd
 refine gc hd ?_
 rintro _ _ ⟨g,rfl,rfl⟩
 refine gc (hK g) ?_
 rintro _ _ ⟨rfl,rfl⟩
 refine ga ?_;intro Td
 refine gc (wc 128 oZ) ?_
 rintro _ _ ⟨p2,A,rfl,hA,rfl⟩
 refine gl [0,1,10,13,68] (fun ((k,_):Nat×Chunk)=>[(69,.int .i64 k)]) (fun (_,A)=>[A]) (fun (k,A)=>k<=4/\xY p2 128 (four ([(aH (cd no b)).a,(aH (cd no b)).b,(aH (cd no b)).c,(aH (cd no b)).d].take k)) A) (fun (k,_)=>4 - k) (0,A) ⟨by omega,hA⟩ ?_
 rintro ⟨k,A⟩ ⟨hk,hA⟩
 refine gi ?_ ?_ <;> intro br
 ·have Nr:k<4:=oZ
  obtain ⟨x,hx⟩:∃x,[(aH (cd no b)).a,(aH (cd no b)).b,(aH (cd no b)).c,(aH (cd no b)).d][k]? = some x:=⟨_,getElem?_eq_getElem Nr⟩
  have hv:([.int .u64 (aH (cd no b)).a,.int .u64 (aH (cd no b)).b,.int .u64 (aH (cd no b)).c,.int .u64 (aH (cd no b)).d]:List Value)[k]? = some (.int .u64 x):=by
   have:([(aH (cd no b)).a,(aH (cd no b)).b,(aH (cd no b)).c,(aH (cd no b)).d].map fun n:Nat=>Value.int .u64 n)[k]? = some (.int .u64 x):=by rw [getElem?_map,hx];rfl
   exact this
  have hb8:x<256 ^ 8:=by
   have:=mem_of_getElem? hx
   obtain ⟨h1,h2,h3,h4⟩:=aO
   simp at this;rcases this with rfl | rfl | rfl | rfl <;> assumption
  have hl4:=wu [(aH (cd no b)).a,(aH (cd no b)).b,(aH (cd no b)).c,(aH (cd no b)).d] k
  refine gc (fT p2 128 _ A x 8 hA oZ hb8 oZ) ?_
  rintro _ _ ⟨A',eo,rfl⟩
  rw [<-zb hx] at eo
  refine gn ?_
  exact ⟨(k+1,A'),⟨by omega,eo⟩,sOZ,ar,_,aa⟩
 ·obtain rfl:k=4:=oZ
  have hg:Rd [(g,ax (au (cd no b)) 5)] 1 (.slice (some ⟨g,0,none⟩) 96 96) (cd no b).length (au (cd no b)):=by rw [dP];exact ay (by rw [aq,dP]) (aP _) oZ _
  have hl4:=wu [(aH (cd no b)).a,(aH (cd no b)).b,(aH (cd no b)).c,(aH (cd no b)).d] 4
  refine gc (nX p2 128 _ (cd no b) A _ _ hA hg oZ) ?_
  rintro _ _ ⟨A4,x4,rfl⟩
  rw [show ([(aH (cd no b)).a,(aH (cd no b)).b,(aH (cd no b)).c,(aH (cd no b)).d].take 4)=[(aH (cd no b)).a,(aH (cd no b)).b,(aH (cd no b)).c,(aH (cd no b)).d] from rfl,<-Hd] at x4
  have hd2:=pG p2 128 _ A4 x4 oZ
  rw [fS] at hd2
  refine gc hd2 ?_
  rintro _ _ ⟨g2,rfl,rfl⟩
  have hg2:Rd [(g2,ax (au (jw no b)) 5)] 1 (.slice (some ⟨g2,0,none⟩) (1*128) 128) (1*128) (au ([jw no b]:List eE).flatten):=by
   rw [show ([jw no b]:List eE).flatten=jw no b by simp];exact ay (by rw [aq,fS]) (aP _) oZ _
  refine rQ [[(a,XB q l (.slice ad l.aN.length c) z1 z2 z3)]] [0,4,8,12,16,20,24,32,36,40,29,47,50] ?_
  refine gc (ln p qs R C hC i q (18+at_) 1 [jw no b] _ _ 128 hq hl (by simp [fS]) rfl oZ hg2 oZ oZ) ?_
  rintro _ _ ⟨C',rfl,bF,rfl⟩
  cases dS:(R.run (gG i (18+at_) [jw no b])).off with
  | true =>
   refine ge ?_
   refine gz ?_
   exact fin ⟨C',rfl,bF,rfl⟩ aa
  | false =>
   refine ge ?_
   refine gz ?_
   exact fin ⟨C',rfl,bF,rfl⟩ aa
omit h in
theorem Jr (at_:Nat)(ha:at_<256)(h18:18+at_<n):Ct 144 [ptr a,.int .i64 at_] [gK T fr,C,L] fun u Bs =>
  (R.off=true/\u = .tuple #[.int .u64 0,.slice none 0 0,.bool false]/\Bs=[gK T fr,C,L])\/(R.off=false/\ig (R.now i (18+at_))=false/\u = .tuple #[.int .u64 0,.slice none 0 0,.bool false]/\Bs=[gK T fr,C,L]) \/
  (R.off=false/\ig (R.now i (18+at_))=true/\∃g,u = .tuple #[.int .u64 (fN (R.now i (18+at_))),.slice (some ⟨g,0,none⟩) 88 88,.bool true]/\Bs=[[(g,ax (au (Lr (R.now i (18+at_)))) 5)],gK T fr,C,L]):=by
 obtain ⟨ad,c,D,z1,z2,z3,hD,rfl⟩:=hL
 have vV:=lq hC.ok (i:=i) (a:=18+at_) oZ
 obtain ⟨s,hs⟩:∃s,s=R.now i (18+at_):=⟨_,rfl⟩
 rw [<-hs] at vV ⊢
 obtain ⟨lV,fS⟩:=vV
 refine st func144 fun w0 => ?_
 refine gs ?_
 refine gc (n0 p qs R C hC i q (18+at_) 1 hq hl oZ) ?_
 rintro _ _ (⟨ho,rfl,rfl⟩ | ⟨ho,g,rfl,rfl⟩)
 ·refine gz ?_
  exact fin (.inl ⟨ho,rfl,rfl⟩) aa
 rw [lV]
 have hg:Rd [(g,ax (au s) 5)] 1 (.slice (some ⟨g,0,none⟩) 128 128) 128 (au s):=ay (by rw [aq,fS]) (aP _) oZ _
 refine gc (sC s 128 fS oZ _ _ hg) ?_
 rintro _ _ ⟨p1,A,rfl,hA,rfl⟩
 refine gc (cw p1 s 0 8 A hA oZ oZ) ?_
 rintro _ _ ⟨A1,rfl,mV,rfl⟩
 refine gc (cw p1 s 8 8 A1 mV oZ oZ) ?_
 rintro _ _ ⟨A2,rfl,l4,rfl⟩
 refine gc (cw p1 s 16 8 A2 l4 oZ oZ) ?_
 rintro _ _ ⟨A3,rfl,wv,rfl⟩
 refine gc (cw p1 s 24 8 A3 wv oZ oZ) ?_
 rintro _ _ ⟨A4,rfl,x4,rfl⟩
 refine ga ?_;intro xX
 refine gc (cw p1 s 32 8 A4 x4 oZ oZ) ?_
 rintro _ _ ⟨A5,rfl,Ga,rfl⟩
 refine gc (qF p1 s 40 88 A5 Ga oZ) ?_
 rintro _ _ ⟨A6,g2,rfl,Tc,rfl⟩
 have agO:128 - 32=96:=rfl
 have qc:((au s).drop (32*1)).take ((128 - 32)*1)=au (s.drop 32):=by rw [Nat.mul_one,Nat.mul_one,bo,take_of_length_le (by rw [aq,length_drop];omega)]
 have ny:(s.drop 32).length=96:=by rw [length_drop];omega
 refine gd [0,4,8,15,18,22,26,30,34,38,42,46,50] ?_
 refine gw ?_;intro ia DV
 refine gc (AE T fr [(g,ax (au s) 5)] _ (s.drop 32) 96 ny DV oZ 1 (nr s 0)) ?_
 rintro _ _ ⟨rfl,rfl⟩
 have hk:tS 1 (nr s 0) (s.drop 32)=decide (nr s 0=aH (s.drop 32)):=by show (true&&Fs.KX _ _)=_;rw [Bool.true_and,Fs.GV];rfl
 rw [hk]
 have gf:numOf (cut s 32 8)=fN s:=rfl
 rw [gf]
 by_cases hc:nr s 0=aH (s.drop 32)
 ·rw [decide_eq_true hc]
  refine gg ?_ ?_ <;> intro h1
  ·refine gz ?_
   exact fin (.inr (.inl ⟨ho,by unfold ig;rw [decide_eq_false (p:=1<=fN s/\_) oZ,Bool.and_false],rfl,rfl⟩)) aa
  ·refine gi ?_ ?_ <;> intro h2
   ·refine gz ?_
    exact fin (.inr (.inl ⟨ho,by unfold ig;rw [decide_eq_false (p:=1<=fN s/\_) oZ,Bool.and_false],rfl,rfl⟩)) aa
   ·refine gz ?_
    exact fin (.inr (.inr ⟨ho,by unfold ig;rw [decide_eq_true hc,decide_eq_true oZ];rfl,g2,rfl,rfl⟩)) aa
 ·rw [decide_eq_false hc]
  refine gz ?_
  exact fin (.inr (.inl ⟨ho,by unfold ig;rw [decide_eq_false hc,Bool.false_and],rfl,rfl⟩)) aa
theorem wG (at_ many:Nat)(hm:at_+many+292<=n):Ct 244 [ptr a,.int .i64 at_,.int .i64 many] [C,L] fun u Bs =>
  (R.off=true/\u = .tuple #[.slice none 0 0,.int .i64 5]/\Bs=[C,L])\/(R.off=false/\∃g,u = .tuple #[.slice (some ⟨g,0,none⟩) (many*128) (many*128),.int .i64 0]/\Bs=[C,[(g,ax (au (R.sK i (274+at_) many)) 5)],L]):=by
 obtain ⟨ad,c,D,z1,z2,z3,hD,rfl⟩:=hL
 refine st func244 fun w0 => ?_
 refine gs ?_
 refine ge ?_
 refine gc (n0 p qs R C hC i q 0 0 hq hl oZ) ?_
 rintro _ _ (⟨ho,rfl,rfl⟩ | ⟨ho,g,rfl,rfl⟩)
 ·refine ge ?_
  refine gz ?_
  exact fin (.inl ⟨ho,rfl,rfl⟩) aa
 refine ge ?_
 refine ge ?_
 refine gc (da p qs R C hC i q hq) ?_
 rintro _ _ ⟨rfl,rfl⟩
 rw [hn]
 refine ge ?_
 refine gc (da p qs R C hC i q hq) ?_
 rintro _ _ ⟨rfl,rfl⟩
 rw [hn]
 refine gc (n0 p qs R C hC i q (274+at_) many hq hl oZ) ?_
 rintro _ _ (⟨dS,rfl,rfl⟩ | ⟨dS,g,rfl,rfl⟩)
 ·rw [ho] at dS;cases dS
 ·refine gz ?_
  exact fin (.inr ⟨ho,g,rfl,rfl⟩) aa
theorem zg (at_ m:Nat)(ss:List eE)(O:Chunk)(ad:Option Addr)(c:Nat)(Jq:∀s∈ss,s.length=128)(hm:ss.length=m)(hf:at_+m+292<=n)
  (hO:Rd O 1 (.slice ad (m*128) c) (m*128) (au ss.flatten)) (hc:m*128<=c) (hw:R.ws.length+m<=900000000000):Ct 321 [ptr a,.int .i64 at_,.slice ad (m*128) c] [C,L,O] fun u Bs =>
  ∃C',u = .int .i64 (if (R.run (gG i (274+at_) ss)).off then 5 else 0)/\bj p qs (R.run (gG i (274+at_) ss)) C'/\Bs=[C',L,O]:=by
 obtain ⟨iY,c1,D,z1,z2,z3,hD,rfl⟩:=hL
 refine st func321 fun w0 => ?_
 refine gs ?_
 refine ge ?_
 refine gc (n0 p qs R C hC i q 0 0 hq hl oZ) ?_
 rintro _ _ (⟨ho,rfl,rfl⟩ | ⟨ho,g,rfl,rfl⟩)
 ·refine ge ?_
  refine gz ?_
  rw [Rk.iH ho,ho]
  exact fin ⟨C,rfl,hC,rfl⟩ aa
 refine ge ?_
 refine ge ?_
 refine gc (da p qs R C hC i q hq) ?_
 rintro _ _ ⟨rfl,rfl⟩
 rw [hn]
 refine ge ?_
 refine gc (da p qs R C hC i q hq) ?_
 rintro _ _ ⟨rfl,rfl⟩
 rw [hn]
 refine gc (ln p qs R C hC i q (274+at_) m ss O ad c hq hl Jq hm oZ hO hc hw) ?_
 rintro _ _ ⟨C',rfl,bF,rfl⟩
 refine gz ?_
 exact fin ⟨C',rfl,bF,rfl⟩ aa
omit h hn in
theorem Eo:Ct 320 [ptr a] [C,L] fun u Bs=>∃C',u = .int .i64 (if (R.ev (.f i)).off then 5 else 0)/\bj p qs (R.ev (.f i)) C'/\Bs=[C',L]:=by
 obtain ⟨iY,c1,D,z1,z2,z3,hD,rfl⟩:=hL
 refine st func320 fun w0 => ?_
 refine gs ?_
 refine rQ [[(a,XB q l (.slice iY l.aN.length c1) z1 z2 z3)]] [0,4,8,12,20,24,28,17,35,38] ?_
 refine gc (Em p qs R C hC i q hq hl) ?_
 rintro _ _ ⟨C',rfl,bF,rfl⟩
 cases dS:(R.ev (.f i)).off with
 | true =>
  refine ge ?_
  refine gz ?_
  exact fin ⟨C',rfl,bF,rfl⟩ aa
 | false =>
  refine ge ?_
  refine gz ?_
  exact fin ⟨C',rfl,bF,rfl⟩ aa
end
end Go.Proofs.YtpabnmeponmonaaGreatDoor
namespace Go.Sl
structure Lv where
 a:Nat
 i:Nat
 q:Nat
abbrev iQ:Option Lv->Value
 | none=>.pointer none
 | some x=>ptr x.a
def wH (ls:List (Option Lv)):T3 Nat:=⟨0,fun i vs i'=>∃x,ls[i]? = some (some x)/\vs=[.int .i64 i,ptr x.a]/\i'=i+1,fun i i'=>ls[i]? = some none/\i'=i+1,fun i=>i=ls.length⟩
end Go.Sl
namespace Go.Proofs.YtpabnmeponmonaaGreatDoor
abbrev AR (vl vk:Value)(sz:Int):Obj:=ax [vl,vk,.int .i64 sz] 263
theorem PO (l b t:Nat)(ls:List (Option Lv))(gH:ls.length<=1000)(vl:Value)(CL:Chunk)(hCL:aC CL 110 1 vl ls.length (ls.map iQ))(vk:Value)(sz:Int)(J:Nat->World->Prop)(Jx:World->Prop)
  (aeY:∀w,J 0 w->w.heap[b]? = some (ax [ptr t] 191)/\w.heap[t]? = some (AR vl vk sz)) (qd:∀i w,J i w->∀x∈CL,w.heap[x.1]? = some x.2)
  (UD:∀i w,ls[i]? = some none->J i w->J (i+1) w)
  (ZQ:∀i x w,ls[i]? = some (some x)->J i w->∃rc,w.heap[l]? = some (.loop rc)/\2=rc.params.size /\
   RoundIn Fence.wide 0 prog l rc.fn ((rc.params.zip #[.int .i64 i,ptr x.a]).foldl (fun tmps x=>tmps.setIfInBounds x.1 x.2) rc.tmps) rc.assign rc.body w fun en w'=>(en = .returned (.bool true)/\J (i+1) w')\/(en = .returned (.bool false)/\Jx w'))
  (w:World) (h0:J 0 w):CallsIn Fence.wide 0 prog 230 #[.func (.yield l) #[] #[],ptr b] w fun en w'=>∃v,en = .returned v/\(J ls.length w'\/Jx w'):=by
 obtain ⟨hb,ht⟩:=aeY w h0
 obtain ⟨ad,c,rfl⟩:=hCL.slice
 refine IS 25 func230 rfl rfl dZ ?_;intro a E
 refine dY ?_;intro K hK
 refine du rfl ?_
 refine aS E rfl rfl dZ (kV E rfl rfl rfl (vp hb rfl)) ?_;clear E a;intro a E
 refine aS E rfl rfl dZ (tg E rfl rfl) ?_;clear E a;intro a E
 refine aS E rfl rfl dZ (by first | exact pc (q:=0) E rfl rfl rfl | exact lR (q:=0) E rfl rfl rfl) ?_;clear E a;intro a E
 refine aS E rfl rfl dZ (kV E rfl rfl rfl (vp ht rfl)) ?_;clear E a;intro a E
 refine aS E rfl rfl dZ (by first | exact NW E rfl rfl rfl | exact vb E rfl rfl rfl | exact oY E rfl rfl rfl) ?_;clear E a;intro a E
 refine aS E rfl rfl dZ (ek E rfl rfl) ?_;clear E a;intro a E
 refine wpList_nil ?_;refine bq ?_
 refine eO hK ?_;clear hK;clear K
 refine nj ?_
 refine kH (fun (m:Nat) (a:Act) (w':World)=>∃i:Nat,m=ls.length - i/\i<=ls.length/\J i w'/\Fr a 25 [(0,.func (.yield l) #[] #[]),(8,.slice ad ls.length c),(9,.int .i64 ls.length),(10,.int .i64 i)]) (ls.length - 0) ?_ ?_
 ·exact ⟨0,rfl,by omega,h0,E.dr (bT rfl (bT rfl (bT rfl (bT rfl mZ))))⟩
 clear E;clear a;(try clear S);rintro m a w ⟨i,rfl,hi,hJ,E⟩
 refine dY ?_;intro K hK
 refine du rfl ?_
 refine aS E rfl rfl dZ (NX E rfl rfl rfl) ?_;clear E a;intro a E
 refine wpList_nil ?_;refine bq ?_
 refine eO hK ?_;clear hK;clear K
 refine dY ?_;intro K hK
 refine Om E rfl (fun hb => ?_) (fun hb => ?_)
 ·replace hb:=Ku.nrm hb
  refine nV ?_
  refine eO hK ?_;clear hK;clear K
  refine dY ?_;intro K hK
  refine nj ?_
  refine dY ?_;intro K hK
  have bh:i<ls.length:=oZ
  obtain ⟨g,rfl⟩:=hCL.addr oZ
  have bB:=qd i w hJ
  obtain ⟨o,ho⟩:∃o,ls[i]? = some o:=⟨_,getElem?_eq_getElem bh⟩
  have bX:(ls.map iQ)[i]? = some (iQ o):=by rw [getElem?_map,ho];rfl
  refine du rfl ?_
  rcases o with _ | x
  ·skip
   refine aS E rfl rfl dZ (ek E rfl rfl) ?_;clear E a;intro a E
   refine aS E rfl rfl dZ (by first | exact pd E rfl rfl rfl rfl rfl rfl oZ | exact jr E rfl rfl rfl rfl rfl rfl oZ | exact fI E rfl rfl rfl rfl rfl rfl oZ) ?_;clear E a;intro a E
   refine aS E rfl rfl dZ (kV E rfl rfl rfl (hCL.rd.cells bB rfl i _ bX)) ?_;clear E a;intro a E
   refine aS E rfl rfl dZ (jF E rfl rfl) ?_;clear E a;intro a E
   refine aS E rfl rfl dZ (jF E rfl rfl) ?_;clear E a;intro a E
   refine wpList_nil ?_;refine bq ?_
   refine eO hK ?_;clear hK;clear K
   refine dY ?_;intro K hK
   refine wpIn_region_lit ?_
   refine bZ E rfl rfl rfl dZ (ek E rfl rfl) ?_;clear E a;intro a E
   refine bZ E rfl rfl rfl dZ (by first | exact Gv E rfl rfl rfl | exact jP E rfl rfl rfl rfl | exact nc E rfl rfl rfl rfl | exact kF E rfl rfl rfl) ?_;clear E a;intro a E
   refine bZ E rfl rfl rfl dZ (ek E rfl rfl) ?_;clear E a;intro a E
   refine guard_false E (t:=17) rfl (rfl) (fun pM => ?_)
   refine eR E rfl rfl rfl rfl pM rfl dZ ?_;clear E a;intro a E
   refine eR E rfl rfl rfl rfl pM rfl dZ ?_;clear E a;intro a E
   refine eR E rfl rfl rfl rfl pM rfl dZ ?_;clear E a;intro a E
   refine eR E rfl rfl rfl rfl pM rfl dZ ?_;clear E a;intro a E
   refine eR E rfl rfl rfl rfl pM rfl dZ ?_;clear E a;intro a E
   refine bZ E rfl rfl rfl dZ (CI E rfl rfl pM rfl) ?_;clear E a;intro a E
   refine wpListIn_nil ?_
   refine eO hK ?_;clear hK;clear K
   refine kX E rfl rfl ?_
   refine nV ?_
   refine r5 ?_
   refine eO hK ?_;clear hK;clear K
   refine du rfl ?_
   refine aS E rfl rfl dZ (Gu E rfl rfl rfl (by first | exact N4 (y:=1) oZ | exact YQ oZ | exact N6 oZ | exact rfl)) ?_;clear E a;intro a E
   refine aS E rfl rfl dZ (ek E rfl rfl) ?_;clear E a;intro a E
   refine wpList_nil ?_;refine bq ?_
   refine na ?_
   exact ⟨_,by omega,i+1,rfl,by omega,UD i w ho hJ,E.dr (bT rfl (bT rfl (bT rfl (bT rfl mZ))))⟩
  ·skip
   refine aS E rfl rfl dZ (ek E rfl rfl) ?_;clear E a;intro a E
   refine aS E rfl rfl dZ (by first | exact pd E rfl rfl rfl rfl rfl rfl oZ | exact jr E rfl rfl rfl rfl rfl rfl oZ | exact fI E rfl rfl rfl rfl rfl rfl oZ) ?_;clear E a;intro a E
   refine aS E rfl rfl dZ (kV E rfl rfl rfl (hCL.rd.cells bB rfl i _ bX)) ?_;clear E a;intro a E
   refine aS E rfl rfl dZ (jF E rfl rfl) ?_;clear E a;intro a E
   refine aS E rfl rfl dZ (jF E rfl rfl) ?_;clear E a;intro a E
   refine wpList_nil ?_;refine bq ?_
   refine eO hK ?_;clear hK;clear K
   refine dY ?_;intro K hK
   refine wpIn_region_lit ?_
   obtain ⟨rc,hl,bu,hR⟩:=ZQ i x w ho hJ;clear hJ
   refine bZ E rfl rfl rfl dZ (ek E rfl rfl) ?_;clear E a;intro a E
   refine bZ E rfl rfl rfl dZ (by first | exact Gv E rfl rfl rfl | exact jP E rfl rfl rfl rfl | exact nc E rfl rfl rfl rfl | exact kF E rfl rfl rfl) ?_;clear E a;intro a E
   refine bZ E rfl rfl rfl dZ (ek E rfl rfl) ?_;clear E a;intro a E
   refine guard_true E (t:=17) rfl (rfl) (fun pM => ?_)
   refine eB E rfl rfl rfl rfl pM rfl rfl dZ (ek E rfl rfl) ?_;clear E a;intro a E
   refine eB E rfl rfl rfl rfl pM rfl rfl dZ (ek E rfl rfl) ?_;clear E a;intro a E
   refine eB E rfl rfl rfl rfl pM rfl rfl dZ (ek E rfl rfl) ?_;clear E a;intro a E
   refine vE E rfl rfl rfl rfl pM (y6 E rfl dZ rfl rfl rfl (hl) (bu) (RoundIn.mono (hR) ?_))
   rintro en w (⟨rfl,hJ⟩ | ⟨rfl,hJ⟩)
   ·refine ⟨_,rfl, ?_⟩;clear E a;intro a E
    refine eB E rfl rfl rfl rfl pM rfl rfl dZ (u4 E rfl rfl) ?_;clear E a;intro a E
    refine bZ E rfl rfl rfl dZ (qj E rfl rfl pM rfl) ?_;clear E a;intro a E
    refine wpListIn_nil ?_
    refine eO hK ?_;clear hK;clear K
    refine kX E rfl rfl ?_
    refine nV ?_
    refine r5 ?_
    refine eO hK ?_;clear hK;clear K
    refine du rfl ?_
    refine aS E rfl rfl dZ (Gu E rfl rfl rfl (by first | exact N4 (y:=1) oZ | exact YQ oZ | exact N6 oZ | exact rfl)) ?_;clear E a;intro a E
    refine aS E rfl rfl dZ (ek E rfl rfl) ?_;clear E a;intro a E
    refine wpList_nil ?_;refine bq ?_
    refine na ?_
    exact ⟨_,by omega,i+1,rfl,by omega,hJ,E.dr (bT rfl (bT rfl (bT rfl (bT rfl mZ))))⟩
   ·refine ⟨_,rfl, ?_⟩;clear E a;intro a E
    refine eB E rfl rfl rfl rfl pM rfl rfl dZ (u4 E rfl rfl) ?_;clear E a;intro a E
    refine bZ E rfl rfl rfl dZ (qj E rfl rfl pM rfl) ?_;clear E a;intro a E
    refine wpListIn_nil ?_
    refine eO hK ?_;clear hK;clear K
    refine qz E rfl rfl ?_
    refine GJ ?_
    refine zO ?_
    refine uY ?_;clear hK;clear K
    refine uY ?_
    refine zO ?_
    refine abo E rfl ?_
    exact ⟨_,rfl,.inr hJ⟩
 ·replace hb:=Ku.nrm hb
  refine Ac ?_
  refine nT ?_;clear hK;clear K
  refine nT ?_
  refine zP ?_
  refine abp E rfl ?_
  obtain rfl:i=ls.length:=oZ
  exact ⟨_,rfl,.inl hJ⟩
theorem wI (b t:Nat)(ls:List (Option Lv))(gH:ls.length<=1000)(vl vk:Value)(CL:Chunk)(hCL:aC CL 110 1 vl ls.length (ls.map iQ))(sz:Int) :
  OR prog 230 [ptr b] [CL] [[(b,ax [ptr t] 191)],[(t,AR vl vk sz)]] (wH ls):=by
 intro w0 As J pE l rc w Ls S hB h0 hsk hr
 have mB:∀ {w':World} {C:Chunk},C∈Ls->St w0 As w' ([(l,.loop rc)] :: ([CL]++Ls))->mH [C] w':=fun hC S=>S.kE.sub fun D hD=>by rw [mem_singleton.1 hD];exact mem_cons_of_mem _ (mem_cons_of_mem _ hC)
 refine CallsIn.mono (PO l b t ls gH vl CL hCL vk sz (fun i w'=>∃bm,St w0 As w' ([(l,.loop rc)] :: ([CL]++bm))/\J i bm/\(i=0->bm=Ls\/0<i)) (fun w'=>∃bm,St w0 As w' ([(l,.loop (y4 rc))] :: ([CL]++bm))/\pE bm)
  (fun w2 ⟨bm,S2,_,h⟩ => ?_) (fun i w ⟨bm,S,_⟩=>S.kE.at mem) (fun i w hi ⟨bm,S,hJ,_⟩=>⟨bm,S,hsk i (i+1) bm ⟨hi,rfl⟩ hJ,fun h=>by omega⟩)
  (fun i x w hi ⟨bm,S,hJ,_⟩ => ?_) w ⟨Ls,S,h0,fun _=>.inl rfl⟩) ?_
 ·rcases h rfl with rfl | h
  ·exact ⟨(mB (hB _ (mem_cons_self ..)) S2).one mem,(mB (hB _ (mem_cons_of_mem _ (mem_cons_self ..))) S2).one mem⟩
  ·omega
 ·obtain ⟨h1,h2⟩:=hr i [.int .i64 i,ptr x.a] (i+1) bm w ⟨x,hi,rfl,rfl⟩ hJ S
  refine ⟨rc,S.vB,h1,RoundIn.mono h2 ?_⟩
  rintro en w' (⟨h3,L',h4,h5⟩ | ⟨h3,L',h4,h5⟩)
  ·exact .inl ⟨h3,L',h4,h5,fun h=>by omega⟩
  ·exact .inr ⟨h3,L',h4,h5⟩
 ·rintro en w' ⟨v,rfl,h⟩
  refine ⟨v,rfl, ?_⟩
  rcases h with ⟨bm,S,hJ,_⟩ | ⟨bm,S,hJ⟩
  ·exact .inl ⟨_,bm,rfl,S,hJ⟩
  ·exact .inr ⟨bm,S,hJ⟩
end Go.Proofs.YtpabnmeponmonaaGreatDoor
namespace Go.Sl
def tV:Nat->List UInt8->List eE
 | 0,_=>[]
 | k+1,l=>l.take 128 :: tV k (l.drop 128)
theorem Ep:∀(k:Nat) (l:List UInt8),(tV k l).length=k
 | 0,_=>rfl
 | k+1,l=>by simp [tV,Ep k]
theorem Er:∀(k:Nat) {l:List UInt8},l.length=k*128->(∀s∈tV k l,s.length=128)/\(tV k l).flatten=l
 | 0,l,h=>by
  have:l=[]:=eq_nil_of_length_eq_zero oZ
  subst this;simp [tV]
 | k+1,l,h=>by
  obtain ⟨h1,h2⟩:=Er k (l:=l.drop 128) (by rw [length_drop];omega)
  refine ⟨fun s hs => ?_,by rw [tV,flatten_cons,h2,take_append_drop]⟩
  rcases List.mem_cons.1 hs with rfl | hs
  ·rw [length_take];omega
  ·exact h1 s hs
def aF (n:Nat):Nat:=(n+127) / 128
def j5 (b:List UInt8):List UInt8:=b++replicate (aF b.length*128 - b.length) 0
def lr (b:List UInt8):List eE:=tV (aF b.length) (j5 b)
theorem wJ (b:List UInt8):(j5 b).length=aF b.length*128:=by simp [j5,aF];omega
theorem iC (b:List UInt8):(lr b).length=aF b.length:=Ep ..
theorem lu (b:List UInt8):(∀s∈lr b,s.length=128)/\(lr b).flatten=j5 b:=Er _ (wJ b)
def dE (qs:List Nat)(R:Rk)(n:Nat)(ls:List (Option Lv)):Prop:=∀x,some x∈ls->qs[x.i]? = some x.q/\R.live x.i/\R.size x.i=n
theorem dE.run {qs:List Nat}{R:Rk}{n:Nat}{ls:List (Option Lv)}(h:dE qs R n ls)(l:List Ev):dE qs (R.run l) n ls:=fun x hx=>by
 obtain ⟨h1,h2,h3⟩:=h x hx
 exact ⟨h1,(Rk.di ..).2 h2,by rw [Rk.bH,h3]⟩
def oM (ls:List (Option Lv))(at_:Nat)(b:List UInt8)(k:Nat):List Ev:=match ls[k]? with
 | some (some x)=>gG x.i (274+at_) (lr b)
 | _=>[]
def nz (ls:List (Option Lv))(k:Nat):List Ev:=match ls[k]? with
 | some (some x)=>[.f x.i]
 | _=>[]
theorem Es (ls:List (Option Lv))(at_:Nat){b:List UInt8}(h:b.length<=1024)(k:Nat):(oM ls at_ b k).length<=8:=by
 unfold oM;split
 ·rw [eT,iC,aF];omega
 ·simp
end Go.Sl
namespace Go.Proofs.YtpabnmeponmonaaGreatDoor
def iR (mk:Nat->fj):Nat->List (Option Lv)->Chunk->Prop
 | _,[],C=>C=[]
 | k,none :: l,C=>iR mk (k+1) l C
 | k,some x :: l,C=>∃L C',PL x.a x.q (mk k) L/\iR mk (k+1) l C'/\C=L++C'
theorem iR.at {mk:Nat->fj}:∀ {l:List (Option Lv)} {k0 k:Nat} {C:Chunk} {x:Lv},iR mk k0 l C->l[k]? = some (some x)->∃A L B,PL x.a x.q (mk (k0+k)) L/\C=A++(L++B)
 | none :: l,k0,k+1,C,x,h,hx=>by
  obtain ⟨A,L,B,h1,h2⟩:=iR.at (l:=l) (k0:=k0+1) (k:=k) (C:=C) h (by simpa using hx)
  exact ⟨A,L,B,by rw [show k0+(k+1)=k0+1+k by omega];exact h1,h2⟩
 | some y :: l,k0,0,C,x,⟨L,C',h1,h2,h3⟩,hx=>by
  cases hx;exact ⟨[],L,C',h1,h3⟩
 | some y :: l,k0,k+1,C,x,⟨L,C',h1,h2,h3⟩,hx=>by
  obtain ⟨A,L',B,g1,g2⟩:=iR.at (l:=l) (k0:=k0+1) (k:=k) (C:=C') h2 (by simpa using hx)
  exact ⟨L++A,L',B,by rw [show k0+(k+1)=k0+1+k by omega];exact g1,by rw [h3,g2,append_assoc]⟩
abbrev nA:Option (Nat×Nat)->List Value
 | none=>[.int .u64 0,.int .u64 0,.bool false]
 | some (a,b)=>[.int .u64 a,.int .u64 b,.bool true]
theorem Lt (x:Option (Nat×Nat)):(nA x).length=3:=by rcases x with _ | ⟨a,b⟩ <;> rfl
def Lu (m:Nat)(ls:List (Option Lv))(lk:List (Option (Nat×Nat)))(sz:Nat)(M:Chunk):Prop:=∃ad c Cv g,
 aC Cv 110 1 (.slice ad ls.length c) ls.length (ls.map iQ)/\lk.length=ls.length /\
 M=[(m,AR (.slice ad ls.length c) (.slice (some ⟨g,0,none⟩) ls.length ls.length) sz)]++(Cv++[(g,ax (lk.flatMap nA) 424)])
theorem qR (m b:Nat)(hb:1<=b/\b<=1024):Ct 348 [ptr m,.int .i64 b] [] fun u Bs=>u = .int .i64 (aF b)/\Bs=[]:=by
 refine st func348 fun w0 => ?_
 refine gz ?_
 exact fin ⟨congrArg _ (by unfold aF;omega),rfl⟩ aa
theorem Lw (m:Nat)(b:List UInt8)(n:Nat)(hn:b.length=n)(hb:1<=n/\n<=1024)(O:Chunk)(v:Value)(hO:Rd O 1 v n (au b)):Ct 356 [ptr m,v] [O] fun u Bs=>∃g,u = .slice (some ⟨g,0,none⟩) (aF n*128) (aF n*128)/\Bs=[[(g,ax (au (j5 b)) 5)],O]:=by
 subst hn
 obtain ⟨ad,c,rfl⟩:=hO.slice
 have eF:aF b.length<=8/\b.length<=aF b.length*128:=by unfold aF;omega
 refine st func356 fun w0 => ?_
 refine gc (qR m b.length hb) ?_
 rintro _ _ ⟨rfl,rfl⟩
 refine gm ?_;intro g
 have Ek:(replicate (aF b.length*128) (Value.int .u8 0)).take 0++(au b).take (min b.length (aF b.length*128))++(replicate (aF b.length*128) (Value.int .u8 0)).drop (0+min b.length (aF b.length*128))=au (j5 b):=by
  rw [Nat.min_eq_left eF.2,take_zero,nil_append,take_of_length_le (by rw [aq];omega),Nat.zero_add,drop_replicate,j5,aG]
  simp [au]
 refine gy ?_
 refine gz ?_
 exact fin ⟨g,rfl,rfl⟩ aa
section
variable (p:Nat)(qs:List Nat)(m n:Nat)(ls:List (Option Lv))(mk:Nat->fj)(lk:List (Option (Nat×Nat)))(hn:324<=n/\n<=8192)(gH:ls.length<=5)
include hn gH
theorem PQ (R:Rk)(C M L:Chunk)(hC:bj p qs R C)(hM:Lu m ls lk (n - 292) M)(hL:iR mk 0 ls L)(ho:dE qs R n ls)(hall:∀x∈ls,x≠none)(ey:1<=ls.length)
  (at_ ae:Nat) (b:List UInt8) (k:Nat) (hk:b.length=k) (hb:1<=k/\k<=1024) (hf:at_+aF k+292<=n) (ht:1<=ae/\ae<=281474976710656) (O:Chunk) (v:Value) (hO:Rd O 1 v k (au b)) (hw:R.ws.length+40<=900000000000) :
  Ct 351 [ptr m,.int .i64 at_,v,.int .u64 ae] [C,M,L,O] fun u Bs=>∃C',u = .int .i64 (if (R.run (upto (oM ls at_ b) ls.length)).off then 5 else 0)/\bj p qs (R.run (upto (oM ls at_ b) ls.length)) C'/\Bs=[C',M,L,O]:=by
 subst hk
 obtain ⟨ad,c,Cv,g,pN,iy,rfl⟩:=hM
 have Gf:=pN.rd
 have eF:1<=aF b.length/\aF b.length<=8:=by unfold aF;omega
 obtain ⟨kK,cv,rfl⟩:=hO.slice
 refine st func351 fun w0 => ?_
 refine gs ?_
 refine ge ?_
 refine gc (qR m b.length hb) ?_
 rintro _ _ ⟨rfl,rfl⟩
 refine gl [0,1,2,3,30,31] (fun ((j,t9,_):Nat×Bool×Chunk)=>[(32,.int .i64 j),(9,.bool t9)]) (fun (_,_,C)=>[C]) (fun (j,t9,C)=>j<=ls.length/\t9=decide (0<j)/\bj p qs (R.run (upto (oM ls at_ b) j)) C/\(0<j->(R.run (upto (oM ls at_ b) j)).off=false)) (fun (j,_)=>ls.length - j) (0,false,C) ⟨by omega,rfl,hC,fun h0=>absurd h0 oZ⟩ ?_
 rintro ⟨j,t9,C⟩ ⟨hj,rfl,hC,jx⟩
 refine gi ?_ ?_ <;> intro br
 ·obtain ⟨ox,hx⟩:=eC (l:=ls) (i:=j) oZ
  rcases ox with _ | x
  ·exact absurd rfl (hall _ (mem_of_getElem? hx))
  have UE:=mem_of_getElem? hx
  obtain ⟨o1,o2,o3⟩:=ho.run (upto (oM ls at_ b) j) x UE
  have bX:(ls.map iQ)[j]? = some (ptr x.a):=by rw [getElem?_map,hx];rfl
  obtain ⟨A,L1,B,qS,rfl⟩:=hL.at hx
  obtain ⟨ZR,off,rfl⟩:=Gf.addr oZ
  have sM:=Rk.eS R (upto (oM ls at_ b) j)
  have Ao:=bY (Es ls at_ hb.2) j
  have hmf:oM ls at_ b j=gG x.i (274+at_) (lr b):=by unfold oM;rw [hx]
  refine gs ?_
  refine gc (Lw m b b.length rfl hb O _ hO) ?_
  rintro _ _ ⟨g2,rfl,rfl⟩
  have hg2:Rd [(g2,ax (au (j5 b)) 5)] 1 (.slice (some ⟨g2,0,none⟩) (aF b.length*128) (aF b.length*128)) (aF b.length*128) (au (lr b).flatten):=by
   rw [(lu b).2];exact ay (by rw [aq,wJ];omega) (aP _) oZ _
  have mX:=zg p qs _ C hC x.i x.q n x.a (mk (0+j)) L1 qS o1 o2 o3 hn at_ (aF b.length) (lr b) _ _ (aF b.length*128) (lu b).1 (iC b) oZ hg2 (Nat.le_refl _) oZ
  rw [<-hmf,<-ea] at mX
  refine gc mX ?_
  rintro _ _ ⟨C',rfl,bF,rfl⟩
  cases dS:(R.run (upto (oM ls at_ b) (j+1))).off with
  | true =>
   refine gz ?_
   rw [jX dS (by omega:j+1<=ls.length),dS]
   exact fin ⟨C',rfl,bF,rfl⟩ aa
  | false =>
   refine gn ?_
   exact ⟨(j+1,true,C'),⟨by omega,by simp,bF,fun _=>dS⟩,sOZ,ar,_,aa⟩
 ·obtain rfl:j=ls.length:=oZ
  rw [decide_eq_true (show 0<ls.length by omega)]
  refine gz ?_
  rw [jx oZ]
  exact fin ⟨C,rfl,hC,rfl⟩ aa
end
end Go.Proofs.YtpabnmeponmonaaGreatDoor
